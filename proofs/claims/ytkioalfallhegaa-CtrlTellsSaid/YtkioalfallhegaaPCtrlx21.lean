-- written by a program of this session (wip/pp) over the kit's print.py; Lean checks it
import Derived.Test.YtkioalfallhegaaPCtrlx0
import Derived.Test.YtkioalfallhegaaPCtrlx5
import Derived.Test.YtkioalfallhegaaPCtrlx6
import Derived.Test.YtkioalfallhegaaPCtrlx9
import Derived.Test.YtkioalfallhegaaPCtrlx15
import Derived.Test.YtkioalfallhegaaPCtrlx16
import Derived.Test.YtkioalfallhegaaPCtrlx18
import Derived.Test.YtkioalfallhegaaPCtrlx19
import Derived.Test.YtkioalfallhegaaPCtrlx20
namespace Go.Proofs.Ytkioalfallhegaa.PCtrl
open Go.RowKit Go.Proofs.YtkioalfallhegaaW.PrintWords Go.Proofs.YtkioalfallhegaaW.PrintLast Go.Proofs.YtkioalfallhegaaW.PrintMore
attribute [local go_sem] max2_int min2_int max_two min_two max_three min_three max_four min_four plus_setCell_drewN plus_cell_same   -- for this text's walks alone
set_option linter.unusedVariables false
set_option linter.unusedSimpArgs false

/-! ### busbarlaw23_CtrlTells: function 5 -/
mutual
def busbarlaw23_CtrlTells.j0 : Nat → Int → Int → Int → Int → Int → Int → Option (Bool)
 | 0, _, _, _, _, _, _ => none
 | k + 1, x0, x1, x2, x3, x4, x5 => (ctrl_Read.f k x0 x1 x2 x3 x4 x5).bind fun t226 => ((ctrl_Regs.f k x0 x1 x2 x3).bind fun t229 => ((busbarref21_Regs.f k x0 x1 x2 x3).bind fun t232 => ((busbarlaw0_SameWords.f k t229 t232).bind fun t235 => (if t235 = true then ((busbarref21_ReadRegs.f k x0 x1 x2 x3 x4 x5).bind fun t236 => ((busbarlaw0_SameWords.f k t226 t236).bind fun t239 => (busbarlaw23_CtrlTells.j1 k x3 (!t239) x0 x1 x2 x3))) else (busbarlaw23_CtrlTells.j1 k x3 true x0 x1 x2 x3)))))
def busbarlaw23_CtrlTells.j1 : Nat → Int → Bool → Int → Int → Int → Int → Option (Bool)
 | 0, _, _, _, _, _, _ => none
 | k + 1, x3, x57, x225000, x225001, x225002, x225003 => if x57 = true then (some false) else ((ctrl_Read.f k x225000 x225001 x225002 x225003 4 8).bind fun t240 => ((word_Join.f k t240 false).bind fun bt243 => (if bt243.2 = true then (some (bt243.1 == x3)) else (some false))))
end
def busbarlaw23_CtrlTells.f (k : Nat) (a0 : Int) (a1 : Int) (a2 : Int) (a3 : Int) (a4 : Int) (a5 : Int) (a6 : Bool) : Option (Bool) := (busbarlaw23_awake.f k).bind fun t221 => (if t221 = true then (if a6 = true then ((busbarlaw0_Within.f a4 11).bind fun t222 => ((busbarlaw0_Within.f a5 11).bind fun t223 => (busbarlaw23_CtrlTells.j0 k a0 a1 a2 a3 (wrap64 (t222 - 1)) (wrap64 (t223 - 1))))) else (busbarlaw23_CtrlTells.j0 k a0 a1 a2 a3 a4 a5)) else (some false))
theorem busbarlaw23_CtrlTells.mono_l : ∀ k, (∀ y0 y1 y2 y3 y4 y5, LeO (busbarlaw23_CtrlTells.j0 k y0 y1 y2 y3 y4 y5) (busbarlaw23_CtrlTells.j0 (k + 1) y0 y1 y2 y3 y4 y5)) ∧ (∀ y0 y1 y2 y3 y4 y5, LeO (busbarlaw23_CtrlTells.j1 k y0 y1 y2 y3 y4 y5) (busbarlaw23_CtrlTells.j1 (k + 1) y0 y1 y2 y3 y4 y5))
 | 0 => ⟨fun _ _ _ _ _ _ r h => by simp [busbarlaw23_CtrlTells.j0] at h, fun _ _ _ _ _ _ r h => by simp [busbarlaw23_CtrlTells.j1] at h⟩
 | k + 1 => by
  obtain ⟨ih0, ih1⟩ := busbarlaw23_CtrlTells.mono_l k
  refine ⟨?_, ?_⟩
  ·
   intro y0 y1 y2 y3 y4 y5
   unfold busbarlaw23_CtrlTells.j0
   repeat' first
   | (with_reducible exact ih0 _ _ _ _ _ _)
   | (with_reducible exact ih1 _ _ _ _ _ _)
   | (with_reducible exact busbarlaw0_SameWords.mono _ _ _)
   | (with_reducible exact busbarlaw23_awake.mono _)
   | (with_reducible exact busbarref21_ReadRegs.mono _ _ _ _ _ _ _)
   | (with_reducible exact busbarref21_Regs.mono _ _ _ _ _)
   | (with_reducible exact ctrl_Read.mono _ _ _ _ _ _ _)
   | (with_reducible exact ctrl_Regs.mono _ _ _ _ _)
   | (with_reducible exact word_Join.mono _ _ _)
   | (with_reducible exact LeO.refl _)
   | (with_reducible exact LeO.none _)
   | (with_reducible refine LeO.ite ?_ ?_)
   | (with_reducible refine LeO.bind ?_ (fun _ => ?_))
   | exact ih0 _ _ _ _ _ _
   | exact ih1 _ _ _ _ _ _
   | exact busbarlaw0_SameWords.mono _ _ _
   | exact busbarlaw23_awake.mono _
   | exact busbarref21_ReadRegs.mono _ _ _ _ _ _ _
   | exact busbarref21_Regs.mono _ _ _ _ _
   | exact ctrl_Read.mono _ _ _ _ _ _ _
   | exact ctrl_Regs.mono _ _ _ _ _
   | exact word_Join.mono _ _ _
   | exact LeO.none _
   | refine LeO.ite ?_ ?_
   | refine LeO.bind ?_ (fun _ => ?_)
  ·
   intro y0 y1 y2 y3 y4 y5
   unfold busbarlaw23_CtrlTells.j1
   repeat' first
   | (with_reducible exact ih0 _ _ _ _ _ _)
   | (with_reducible exact ih1 _ _ _ _ _ _)
   | (with_reducible exact busbarlaw0_SameWords.mono _ _ _)
   | (with_reducible exact busbarlaw23_awake.mono _)
   | (with_reducible exact busbarref21_ReadRegs.mono _ _ _ _ _ _ _)
   | (with_reducible exact busbarref21_Regs.mono _ _ _ _ _)
   | (with_reducible exact ctrl_Read.mono _ _ _ _ _ _ _)
   | (with_reducible exact ctrl_Regs.mono _ _ _ _ _)
   | (with_reducible exact word_Join.mono _ _ _)
   | (with_reducible exact LeO.refl _)
   | (with_reducible exact LeO.none _)
   | (with_reducible refine LeO.ite ?_ ?_)
   | (with_reducible refine LeO.bind ?_ (fun _ => ?_))
   | exact ih0 _ _ _ _ _ _
   | exact ih1 _ _ _ _ _ _
   | exact busbarlaw0_SameWords.mono _ _ _
   | exact busbarlaw23_awake.mono _
   | exact busbarref21_ReadRegs.mono _ _ _ _ _ _ _
   | exact busbarref21_Regs.mono _ _ _ _ _
   | exact ctrl_Read.mono _ _ _ _ _ _ _
   | exact ctrl_Regs.mono _ _ _ _ _
   | exact word_Join.mono _ _ _
   | exact LeO.none _
   | refine LeO.ite ?_ ?_
   | refine LeO.bind ?_ (fun _ => ?_)
theorem busbarlaw23_CtrlTells.mono : ∀ a0 a1 a2 a3 a4 a5 a6 k, LeO (busbarlaw23_CtrlTells.f k a0 a1 a2 a3 a4 a5 a6) (busbarlaw23_CtrlTells.f (k + 1) a0 a1 a2 a3 a4 a5 a6) := by
 intro a0 a1 a2 a3 a4 a5 a6 k
 obtain ⟨ih0, ih1⟩ := busbarlaw23_CtrlTells.mono_l k
 unfold busbarlaw23_CtrlTells.f
 repeat' first
   | (with_reducible exact ih0 _ _ _ _ _ _)
   | (with_reducible exact ih1 _ _ _ _ _ _)
   | (with_reducible exact busbarlaw0_SameWords.mono _ _ _)
   | (with_reducible exact busbarlaw23_awake.mono _)
   | (with_reducible exact busbarref21_ReadRegs.mono _ _ _ _ _ _ _)
   | (with_reducible exact busbarref21_Regs.mono _ _ _ _ _)
   | (with_reducible exact ctrl_Read.mono _ _ _ _ _ _ _)
   | (with_reducible exact ctrl_Regs.mono _ _ _ _ _)
   | (with_reducible exact word_Join.mono _ _ _)
   | (with_reducible exact LeO.refl _)
   | (with_reducible exact LeO.none _)
   | (with_reducible refine LeO.ite ?_ ?_)
   | (with_reducible refine LeO.bind ?_ (fun _ => ?_))
   | exact ih0 _ _ _ _ _ _
   | exact ih1 _ _ _ _ _ _
   | exact busbarlaw0_SameWords.mono _ _ _
   | exact busbarlaw23_awake.mono _
   | exact busbarref21_ReadRegs.mono _ _ _ _ _ _ _
   | exact busbarref21_Regs.mono _ _ _ _ _
   | exact ctrl_Read.mono _ _ _ _ _ _ _
   | exact ctrl_Regs.mono _ _ _ _ _
   | exact word_Join.mono _ _ _
   | exact LeO.none _
   | refine LeO.ite ?_ ?_
   | refine LeO.bind ?_ (fun _ => ?_)
def busbarlaw23_CtrlTells.T7 : Bool × List (List Nat × List Nat) := (true, [([], []), ([0], [0]), ([], []), ([2, 1], [2]), ([1, 3, 3], [1, 3]), ([4], [4]), ([5, 4], [5]), ([6], [6]), ([6], [6]), ([6], [6]), ([6], [6]), ([8, 9, 10, 6, 6], [6, 8, 9, 10]), ([7, 11, 11, 6], [6, 7, 11]), ([12, 6], [6, 12]), ([6, 13], [6, 13])])
def busbarlaw23_CtrlTells.B7 : List Nat := [0, 1, 0, 7, 15, 31, 63, 127, 127, 127, 127, 1919, 4095, 8191, 16383]
theorem busbarlaw23_CtrlTells.tab7 : rtab .any (opsOf Try.f5 7) = busbarlaw23_CtrlTells.T7 := by kernel_rfl
theorem busbarlaw23_CtrlTells.bits7 : waitsOk busbarlaw23_CtrlTells.T7.2 busbarlaw23_CtrlTells.B7 = true := by kernel_rfl
set_option maxHeartbeats 8000000 in
set_option maxRecDepth 100000 in
theorem busbarlaw23_CtrlTells.calls (k : Nat) (a0 : Int) (a1 : Int) (a2 : Int) (a3 : Int) (a4 : Int) (a5 : Int) (a6 : Bool) (r : Bool) (w : World) (h : busbarlaw23_CtrlTells.f k a0 a1 a2 a3 a4 a5 a6 = some r) :
  Calls Try.prog 5 #[.int .i64 a0, .int .i64 a1, .int .i64 a2, .int .u64 a3, .int .i64 a4, .int .i64 a5, .bool a6] w fun e w' => e = .returned (.bool r) ∧ Below w.heap.size w w' := by
 have hu36 := Try.underlying36
 have hu37 := Try.underlying37
 have HB := Aside0.mk (Below.refl w.heap.size w)
 have H : ((busbarlaw23_awake.f k).bind fun t221 => (if t221 = true then (if a6 = true then ((busbarlaw0_Within.f a4 11).bind fun t222 => ((busbarlaw0_Within.f a5 11).bind fun t223 => (busbarlaw23_CtrlTells.j0 k a0 a1 a2 a3 (wrap64 (t222 - 1)) (wrap64 (t223 - 1))))) else (busbarlaw23_CtrlTells.j0 k a0 a1 a2 a3 a4 a5)) else (some false))) = some r := h
 clear h
 replace H := Option.bind_eq_some_iff.mp H
 obtain ⟨t221, A80, H⟩ := H
 replace H : (if t221 = true then (if a6 = true then ((busbarlaw0_Within.f a4 11).bind fun t222 => ((busbarlaw0_Within.f a5 11).bind fun t223 => (busbarlaw23_CtrlTells.j0 k a0 a1 a2 a3 (wrap64 (t222 - 1)) (wrap64 (t223 - 1))))) else (busbarlaw23_CtrlTells.j0 k a0 a1 a2 a3 a4 a5)) else (some false)) = some r := H
 have A8 := Aside0.mk A80
 clear A80
 by_cases c9 : t221 = true
 ·
  subst c9
  have H1 : (if a6 = true then ((busbarlaw0_Within.f a4 11).bind fun t222 => ((busbarlaw0_Within.f a5 11).bind fun t223 => (busbarlaw23_CtrlTells.j0 k a0 a1 a2 a3 (wrap64 (t222 - 1)) (wrap64 (t223 - 1))))) else (busbarlaw23_CtrlTells.j0 k a0 a1 a2 a3 a4 a5)) = some r := by rw [if_pos rfl] at H; exact H
  clear H
  have H := H1
  clear H1
  have HC10 := Aside0.mk H
  clear H
  go_enter Try.func5, Try.ntmps5
  go_upto_if 22 with (first | ((with_reducible refine gate_callee (f := 12) rfl ?_); refine goesL_ (some 20) rfl rfl Try.func12 (by kernel_rfl) rfl #[] rfl (by (try simp only [List.map_toArray, List.map_cons, List.map_nil]); first | done | rfl | (simp only [List.length_drop, List.length_take]; rfl)) ?_; (with_reducible refine (busbarlaw23_awake.calls k  true _ A8.out).mono ?_); rintro e w11 ⟨rfl, hb⟩; refine ⟨_, rfl, ?_⟩; have n0_ := Aside0.mk (below_step (by repeat (first | (with_reducible first | exact HB.out | apply below_alloc | apply pw_below_drewN | apply below_drew1) | exact HB.out)) hb); clear HB; have HB := n0_; clear n0_; (try clear hb); (try clear hb2); (try clear hk); (try clear hi)))
  (try simp only [Act.put, List.setIfInBounds_toArray, List.set_cons_zero, List.set_cons_succ])
  go_cut [4, 5] (fun v4 v5 wc => ∃ (kq : Nat) (x4_9 : Int) (x5_9 : Int), v4 = .int .i64 x4_9 ∧ v5 = .int .i64 x5_9 ∧ Aside0 (busbarlaw23_CtrlTells.j0 kq a0 a1 a2 a3 x4_9 x5_9 = some r) ∧ Aside0 (kq ≤ k) ∧ Aside0 (Below w.heap.size w wc))
  case first =>
   have H := HC10.out
   clear HC10
   by_cases c12 : a6 = true
   ·
    subst c12
    have H1 : ((busbarlaw0_Within.f a4 11).bind fun t222 => ((busbarlaw0_Within.f a5 11).bind fun t223 => (busbarlaw23_CtrlTells.j0 k a0 a1 a2 a3 (wrap64 (t222 - 1)) (wrap64 (t223 - 1))))) = some r := by rw [if_pos rfl] at H; exact H
    clear H
    have H := H1
    clear H1
    replace H := Option.bind_eq_some_iff.mp H
    obtain ⟨t222, A130, H⟩ := H
    replace H : ((busbarlaw0_Within.f a5 11).bind fun t223 => (busbarlaw23_CtrlTells.j0 k a0 a1 a2 a3 (wrap64 (t222 - 1)) (wrap64 (t223 - 1)))) = some r := H
    have A13 := Aside0.mk A130
    clear A130
    replace H := Option.bind_eq_some_iff.mp H
    obtain ⟨t223, A140, H⟩ := H
    replace H : (busbarlaw23_CtrlTells.j0 k a0 a1 a2 a3 (wrap64 (t222 - 1)) (wrap64 (t223 - 1))) = some r := H
    have A14 := Aside0.mk A140
    clear A140
    have H' := Aside0.mk H
    clear H
    go_wp2_with (first | ((with_reducible refine gate_callee (f := 16) rfl ?_); refine goesL_ (some 24) rfl rfl Try.func16 (by kernel_rfl) rfl #[.int .i64 a4, .int .i64 11] rfl (by (try simp only [List.map_toArray, List.map_cons, List.map_nil]); first | done | rfl | (simp only [List.length_drop, List.length_take]; rfl)) ?_; (with_reducible refine (busbarlaw0_Within.calls a4 11 t222 _ A13.out).mono ?_); rintro e w' ⟨rfl, ⟨nd, rfl⟩⟩; refine ⟨_, rfl, ?_⟩) | ((with_reducible refine gate_callee (f := 16) rfl ?_); refine goesL_ (some 27) rfl rfl Try.func16 (by kernel_rfl) rfl #[.int .i64 a5, .int .i64 11] rfl (by (try simp only [List.map_toArray, List.map_cons, List.map_nil]); first | done | rfl | (simp only [List.length_drop, List.length_take]; rfl)) ?_; (with_reducible refine (busbarlaw0_Within.calls a5 11 t223 _ A14.out).mono ?_); rintro e w' ⟨rfl, ⟨nd, rfl⟩⟩; refine ⟨_, rfl, ?_⟩))
    go_meet
    case rel => exact ⟨_, (wrap64 (t222 - 1)), (wrap64 (t223 - 1)), (by first | rfl | (simp; done) | (simp [*]; done)), (by first | rfl | (simp; done) | (simp [*]; done)), H', ⟨by first | omega | exact Nat.le_refl _⟩, ⟨by repeat (first | (with_reducible first | exact HB.out | apply below_alloc | apply pw_below_drewN | apply below_drew1) | exact HB.out)⟩⟩
   ·
    replace c12 := Bool.eq_false_iff.mpr c12
    subst c12
    have H1 : (busbarlaw23_CtrlTells.j0 k a0 a1 a2 a3 a4 a5) = some r := by rw [if_neg (show ¬ (false = true) by decide)] at H; exact H
    clear H
    have H := H1
    clear H1
    have H' := Aside0.mk H
    clear H
    go_wp2
    go_meet
    case rel => exact ⟨_, (a4), (a5), (by first | rfl | (simp; done) | (simp [*]; done)), (by first | rfl | (simp; done) | (simp [*]; done)), H', ⟨by first | omega | exact Nat.le_refl _⟩, ⟨by repeat (first | (with_reducible first | exact HB.out | apply below_alloc | apply pw_below_drewN | apply below_drew1) | exact HB.out)⟩⟩
  case rest =>
   clear HC10
   try clear c1
   try clear p2
   try clear c5
   try clear p6
   try clear c9
   try clear c12
   obtain ⟨kq, x4_9, x5_9, rfl, rfl, HA, HJ9, HB⟩ := hcut
   cases kq with
   | zero => exact absurd HA.out (by simp [busbarlaw23_CtrlTells.j0])
   | succ kj9 =>
    have H := HA.out
    clear HA
    simp only [busbarlaw23_CtrlTells.j0] at H
    replace H := Option.bind_eq_some_iff.mp H
    obtain ⟨t226, A150, H⟩ := H
    replace H : ((ctrl_Regs.f kj9 a0 a1 a2 a3).bind fun t229 => ((busbarref21_Regs.f kj9 a0 a1 a2 a3).bind fun t232 => ((busbarlaw0_SameWords.f kj9 t229 t232).bind fun t235 => (if t235 = true then ((busbarref21_ReadRegs.f kj9 a0 a1 a2 a3 x4_9 x5_9).bind fun t236 => ((busbarlaw0_SameWords.f kj9 t226 t236).bind fun t239 => (busbarlaw23_CtrlTells.j1 kj9 a3 (!t239) a0 a1 a2 a3))) else (busbarlaw23_CtrlTells.j1 kj9 a3 true a0 a1 a2 a3))))) = some r := H
    have A15 := Aside0.mk A150
    clear A150
    have HC16 := Aside0.mk H
    clear H
    go_upto_region 7 with (first | ((with_reducible refine gate_dst (N := 15) rfl ?_); refine box_event ?hg (N := 15) ?hd (cs := #[.int .i64 0, .int .i64 0, .int .i64 0, .int .u64 0]) (t := 36) ?hr ?_; (case hd => rfl); (case hg => rfl); (case hr => first | (go_simp; done) | (go_simp; rfl)); intro gb224 hg w17 hbox hb; have n0_ := Aside0.mk (below_step (by repeat (first | (with_reducible first | exact HB.out | apply below_alloc | apply pw_below_drewN | apply below_drew1) | exact HB.out)) hb); have n1_ := Aside0.mk (hbox); have n2_ := Aside0.mk ((by rw [hg]; exact (below_size (by repeat (first | (with_reducible first | exact HB.out | apply below_alloc | apply pw_below_drewN | apply below_drew1) | exact HB.out))) : w.heap.size ≤ gb224)); have n3_ := Aside0.mk ((by rw [hg]; exact (below_size (by repeat (first | (with_reducible first | exact HB.out | apply below_alloc | apply pw_below_drewN | apply below_drew1) | exact HB.out))) : w.heap.size ≤ gb224)); clear HB; have HB := n0_; have BK224 := n1_; have GW224 := n2_; have GE224 := n3_; clear n0_ n1_ n2_ n3_; clear hb hbox hg) | ((with_reducible refine gate_dst (N := 16) rfl ?_); refine box_event ?hg (N := 16) ?hd (cs := #[.int .i64 0, .int .i64 0, .int .i64 0, .int .u64 0]) (t := 37) ?hr ?_; (case hd => rfl); (case hg => rfl); (case hr => first | (go_simp; done) | (go_simp; rfl)); intro gb225 hg w18 hbox hb; have n0_ := Aside0.mk (blk_below (g := gb224) (o := .cells #[.int .i64 0, .int .i64 0, .int .i64 0, .int .u64 0] 36 (0, 0)) (by (with_reducible repeat (first | refine blk_drewN ?_ _ | refine blk_drew ?_ | refine blk_alloc ?_ _)); exact BK224.out) hb); have n1_ := Aside0.mk (below_step (by repeat (first | (with_reducible first | exact HB.out | apply below_alloc | apply pw_below_drewN | apply below_drew1 | refine below_set ?_ GE224.out) | exact HB.out)) hb); have n2_ := Aside0.mk (hbox); have n3_ := Aside0.mk ((by rw [hg]; exact (below_size (by repeat (first | (with_reducible first | exact HB.out | apply below_alloc | apply pw_below_drewN | apply below_drew1 | refine below_set ?_ GE224.out) | exact HB.out))) : w.heap.size ≤ gb225)); have n4_ := Aside0.mk ((by rw [hg]; exact (below_size (by repeat (first | (with_reducible first | exact HB.out | apply below_alloc | apply pw_below_drewN | apply below_drew1 | refine below_set ?_ GE224.out) | exact HB.out))) : w.heap.size ≤ gb225)); have n5_ := Aside0.mk ((by rw [hg]; exact Nat.ne_of_lt (blk_lt (g := gb224) (o := .cells #[.int .i64 0, .int .i64 0, .int .i64 0, .int .u64 0] 36 (0, 0)) (by (with_reducible repeat (first | refine blk_drewN ?_ _ | refine blk_drew ?_ | refine blk_alloc ?_ _)); exact BK224.out)) : gb224 ≠ gb225)); have n6_ := Aside0.mk ((by rw [hg]; exact Nat.ne_of_gt (blk_lt (g := gb224) (o := .cells #[.int .i64 0, .int .i64 0, .int .i64 0, .int .u64 0] 36 (0, 0)) (by (with_reducible repeat (first | refine blk_drewN ?_ _ | refine blk_drew ?_ | refine blk_alloc ?_ _)); exact BK224.out)) : gb225 ≠ gb224)); clear BK224; clear HB; have BK224 := n0_; have HB := n1_; have BK225 := n2_; have GW225 := n3_; have GE225 := n4_; have NB224_225 := n5_; have NB225_224 := n6_; clear n0_ n1_ n2_ n3_ n4_ n5_ n6_; clear hb hbox hg; have hnb19 := NB224_225.out; have hnc19 := NB225_224.out; have hcz20_0 : w18.cell? ⟨gb224, 0, none⟩ = some (.int .i64 0) := (blk_cell BK224.out 0).trans rfl; have hcz20_1 : w18.cell? ⟨gb224, 1, none⟩ = some (.int .i64 0) := (blk_cell BK224.out 1).trans rfl; have hcz20_2 : w18.cell? ⟨gb224, 2, none⟩ = some (.int .i64 0) := (blk_cell BK224.out 2).trans rfl; have hcz20_3 : w18.cell? ⟨gb224, 3, none⟩ = some (.int .u64 0) := (blk_cell BK224.out 3).trans rfl; have hfz20_0 := blk_frozen BK224.out 0; have hfz20_1 := blk_frozen BK224.out 1; have hfz20_2 := blk_frozen BK224.out 2; have hfz20_3 := blk_frozen BK224.out 3; have hcz21_0 : w18.cell? ⟨gb225, 0, none⟩ = some (.int .i64 0) := (blk_cell BK225.out 0).trans rfl; have hcz21_1 : w18.cell? ⟨gb225, 1, none⟩ = some (.int .i64 0) := (blk_cell BK225.out 1).trans rfl; have hcz21_2 : w18.cell? ⟨gb225, 2, none⟩ = some (.int .i64 0) := (blk_cell BK225.out 2).trans rfl; have hcz21_3 : w18.cell? ⟨gb225, 3, none⟩ = some (.int .u64 0) := (blk_cell BK225.out 3).trans rfl; have hfz21_0 := blk_frozen BK225.out 0; have hfz21_1 := blk_frozen BK225.out 1; have hfz21_2 := blk_frozen BK225.out 2; have hfz21_3 := blk_frozen BK225.out 3) | ((with_reducible refine gate_callee (f := 17) rfl ?_); refine goesL_ (some 42) rfl rfl Try.func17 (by kernel_rfl) rfl #[.agg #[.int .i64 a0, .int .i64 a1, .int .i64 a2, .int .u64 a3], .int .i64 x4_9, .int .i64 x5_9] rfl (by (try simp only [List.map_toArray, List.map_cons, List.map_nil]); first | done | rfl | (simp only [List.length_drop, List.length_take]; rfl)) ?_; (with_reducible refine (ctrl_Read.calls kj9 a0 a1 a2 a3 x4_9 x5_9 t226 _ A15.out).mono ?_); rintro e w22 ⟨v227, rfl, ho0, hb⟩; refine ⟨_, rfl, ?_⟩; have n0_ := Aside0.mk (Kd.R_lower ho0 (below_size (by repeat (first | (with_reducible first | exact HB.out | apply below_alloc | apply pw_below_drewN | apply below_drew1 | refine below_set ?_ GE224.out | refine below_set ?_ GE225.out) | exact HB.out)))); have n1_ := Aside0.mk (blk_below (g := gb224) (o := .cells #[.int .i64 a0, .int .i64 a1, .int .i64 a2, .int .u64 a3] 36 (0, 0)) (by (with_reducible repeat (first | refine blk_drewN ?_ _ | refine blk_drew ?_ | refine blk_alloc ?_ _)); refine blk_far ?_ NB224_225.out _; (with_reducible repeat (first | refine blk_drewN ?_ _ | refine blk_drew ?_ | refine blk_alloc ?_ _)); refine blk_far ?_ NB224_225.out _; (with_reducible repeat (first | refine blk_drewN ?_ _ | refine blk_drew ?_ | refine blk_alloc ?_ _)); refine blk_far ?_ NB224_225.out _; (with_reducible repeat (first | refine blk_drewN ?_ _ | refine blk_drew ?_ | refine blk_alloc ?_ _)); refine blk_far ?_ NB224_225.out _; (with_reducible repeat (first | refine blk_drewN ?_ _ | refine blk_drew ?_ | refine blk_alloc ?_ _)); refine blk_put (cs := #[.int .i64 a0, .int .i64 a1, .int .i64 a2, .int .u64 0]) ?_ 3 _ rfl; (with_reducible repeat (first | refine blk_drewN ?_ _ | refine blk_drew ?_ | refine blk_alloc ?_ _)); refine blk_put (cs := #[.int .i64 a0, .int .i64 a1, .int .i64 0, .int .u64 0]) ?_ 2 _ rfl; (with_reducible repeat (first | refine blk_drewN ?_ _ | refine blk_drew ?_ | refine blk_alloc ?_ _)); refine blk_put (cs := #[.int .i64 a0, .int .i64 0, .int .i64 0, .int .u64 0]) ?_ 1 _ rfl; (with_reducible repeat (first | refine blk_drewN ?_ _ | refine blk_drew ?_ | refine blk_alloc ?_ _)); refine blk_put (cs := #[.int .i64 0, .int .i64 0, .int .i64 0, .int .u64 0]) ?_ 0 _ rfl; (with_reducible repeat (first | refine blk_drewN ?_ _ | refine blk_drew ?_ | refine blk_alloc ?_ _)); exact BK224.out) hb); have n2_ := Aside0.mk (blk_below (g := gb225) (o := .cells #[.int .i64 a0, .int .i64 a1, .int .i64 a2, .int .u64 a3] 37 (0, 0)) (by (with_reducible repeat (first | refine blk_drewN ?_ _ | refine blk_drew ?_ | refine blk_alloc ?_ _)); refine blk_put (cs := #[.int .i64 a0, .int .i64 a1, .int .i64 a2, .int .u64 0]) ?_ 3 _ rfl; (with_reducible repeat (first | refine blk_drewN ?_ _ | refine blk_drew ?_ | refine blk_alloc ?_ _)); refine blk_put (cs := #[.int .i64 a0, .int .i64 a1, .int .i64 0, .int .u64 0]) ?_ 2 _ rfl; (with_reducible repeat (first | refine blk_drewN ?_ _ | refine blk_drew ?_ | refine blk_alloc ?_ _)); refine blk_put (cs := #[.int .i64 a0, .int .i64 0, .int .i64 0, .int .u64 0]) ?_ 1 _ rfl; (with_reducible repeat (first | refine blk_drewN ?_ _ | refine blk_drew ?_ | refine blk_alloc ?_ _)); refine blk_put (cs := #[.int .i64 0, .int .i64 0, .int .i64 0, .int .u64 0]) ?_ 0 _ rfl; (with_reducible repeat (first | refine blk_drewN ?_ _ | refine blk_drew ?_ | refine blk_alloc ?_ _)); refine blk_far ?_ NB225_224.out _; (with_reducible repeat (first | refine blk_drewN ?_ _ | refine blk_drew ?_ | refine blk_alloc ?_ _)); refine blk_far ?_ NB225_224.out _; (with_reducible repeat (first | refine blk_drewN ?_ _ | refine blk_drew ?_ | refine blk_alloc ?_ _)); refine blk_far ?_ NB225_224.out _; (with_reducible repeat (first | refine blk_drewN ?_ _ | refine blk_drew ?_ | refine blk_alloc ?_ _)); refine blk_far ?_ NB225_224.out _; (with_reducible repeat (first | refine blk_drewN ?_ _ | refine blk_drew ?_ | refine blk_alloc ?_ _)); exact BK225.out) hb); have n3_ := Aside0.mk (below_step (by repeat (first | (with_reducible first | exact HB.out | apply below_alloc | apply pw_below_drewN | apply below_drew1 | refine below_set ?_ GE224.out | refine below_set ?_ GE225.out) | exact HB.out)) hb); clear BK224; clear BK225; clear HB; have HO228 := n0_; have BK224 := n1_; have BK225 := n2_; have HB := n3_; clear n0_ n1_ n2_ n3_; (try clear hb); (try clear hb2); (try clear hk); (try clear hi); (try clear ho0)))
    (try simp only [Act.put, List.setIfInBounds_toArray, List.set_cons_zero, List.set_cons_succ])
    go_cut [57] (fun v57 wc => ∃ (kq : Nat) (x57_15 : Bool), v57 = .bool x57_15 ∧ Aside0 (busbarlaw23_CtrlTells.j1 kq a3 x57_15 a0 a1 a2 a3 = some r) ∧ Aside0 (kq ≤ kj9) ∧ Aside0 (wc.heap[gb224]? = some (.cells #[.int .i64 a0, .int .i64 a1, .int .i64 a2, .int .u64 a3] 36 (0, 0))) ∧ Aside0 (wc.heap[gb225]? = some (.cells #[.int .i64 a0, .int .i64 a1, .int .i64 a2, .int .u64 a3] 37 (0, 0))) ∧ Aside0 (Below w.heap.size w wc))
    case first =>
     have H := HC16.out
     clear HC16
     replace H := Option.bind_eq_some_iff.mp H
     obtain ⟨t229, A230, H⟩ := H
     replace H : ((busbarref21_Regs.f kj9 a0 a1 a2 a3).bind fun t232 => ((busbarlaw0_SameWords.f kj9 t229 t232).bind fun t235 => (if t235 = true then ((busbarref21_ReadRegs.f kj9 a0 a1 a2 a3 x4_9 x5_9).bind fun t236 => ((busbarlaw0_SameWords.f kj9 t226 t236).bind fun t239 => (busbarlaw23_CtrlTells.j1 kj9 a3 (!t239) a0 a1 a2 a3))) else (busbarlaw23_CtrlTells.j1 kj9 a3 true a0 a1 a2 a3)))) = some r := H
     have A23 := Aside0.mk A230
     clear A230
     replace H := Option.bind_eq_some_iff.mp H
     obtain ⟨t232, A240, H⟩ := H
     replace H : ((busbarlaw0_SameWords.f kj9 t229 t232).bind fun t235 => (if t235 = true then ((busbarref21_ReadRegs.f kj9 a0 a1 a2 a3 x4_9 x5_9).bind fun t236 => ((busbarlaw0_SameWords.f kj9 t226 t236).bind fun t239 => (busbarlaw23_CtrlTells.j1 kj9 a3 (!t239) a0 a1 a2 a3))) else (busbarlaw23_CtrlTells.j1 kj9 a3 true a0 a1 a2 a3))) = some r := H
     have A24 := Aside0.mk A240
     clear A240
     replace H := Option.bind_eq_some_iff.mp H
     obtain ⟨t235, A250, H⟩ := H
     replace H : (if t235 = true then ((busbarref21_ReadRegs.f kj9 a0 a1 a2 a3 x4_9 x5_9).bind fun t236 => ((busbarlaw0_SameWords.f kj9 t226 t236).bind fun t239 => (busbarlaw23_CtrlTells.j1 kj9 a3 (!t239) a0 a1 a2 a3))) else (busbarlaw23_CtrlTells.j1 kj9 a3 true a0 a1 a2 a3)) = some r := H
     have A25 := Aside0.mk A250
     clear A250
     by_cases c26 : t235 = true
     ·
      subst c26
      have H1 : ((busbarref21_ReadRegs.f kj9 a0 a1 a2 a3 x4_9 x5_9).bind fun t236 => ((busbarlaw0_SameWords.f kj9 t226 t236).bind fun t239 => (busbarlaw23_CtrlTells.j1 kj9 a3 (!t239) a0 a1 a2 a3))) = some r := by rw [if_pos rfl] at H; exact H
      clear H
      have H := H1
      clear H1
      replace H := Option.bind_eq_some_iff.mp H
      obtain ⟨t236, A270, H⟩ := H
      replace H : ((busbarlaw0_SameWords.f kj9 t226 t236).bind fun t239 => (busbarlaw23_CtrlTells.j1 kj9 a3 (!t239) a0 a1 a2 a3)) = some r := H
      have A27 := Aside0.mk A270
      clear A270
      replace H := Option.bind_eq_some_iff.mp H
      obtain ⟨t239, A280, H⟩ := H
      replace H : (busbarlaw23_CtrlTells.j1 kj9 a3 (!t239) a0 a1 a2 a3) = some r := H
      have A28 := Aside0.mk A280
      clear A280
      have H' := Aside0.mk H
      clear H
      try go_wp2
      have n0_ := Aside0.mk (Kd.R_drew HO228.out)
      have n1_ := Aside0.mk (blk_drew BK224.out)
      have n2_ := Aside0.mk (blk_drew BK225.out)
      have n3_ := Aside0.mk (below_drew1 HB.out)
      clear HO228
      clear BK224
      clear BK225
      clear HB
      have HO228 := n0_
      have BK224 := n1_
      have BK225 := n2_
      have HB := n3_
      clear n0_ n1_ n2_ n3_
      refine start_ (n := 15) (S := fun w' => w'.cell? ⟨gb224, 0, none⟩ = some (.int .i64 a0) ∧ w'.cell? ⟨gb224, 1, none⟩ = some (.int .i64 a1) ∧ w'.cell? ⟨gb224, 2, none⟩ = some (.int .i64 a2) ∧ w'.cell? ⟨gb224, 3, none⟩ = some (.int .u64 a3) ∧ w'.cell? ⟨gb225, 0, none⟩ = some (.int .i64 a0) ∧ w'.cell? ⟨gb225, 1, none⟩ = some (.int .i64 a1) ∧ w'.cell? ⟨gb225, 2, none⟩ = some (.int .i64 a2) ∧ w'.cell? ⟨gb225, 3, none⟩ = some (.int .u64 a3)) (ds := []) #[false, false, false, false, false, false, false, false, false, false, false, false, false, false, false] (by kernel_rfl) rfl rfl ⟨(blk_cell BK224.out 0).trans rfl, (blk_cell BK224.out 1).trans rfl, (blk_cell BK224.out 2).trans rfl, (blk_cell BK224.out 3).trans rfl, (blk_cell BK225.out 0).trans rfl, (blk_cell BK225.out 1).trans rfl, (blk_cell BK225.out 2).trans rfl, (blk_cell BK225.out 3).trans rfl⟩ (fun hHeld => ?_); refine with_tabW busbarlaw23_CtrlTells.tab7 busbarlaw23_CtrlTells.bits7 (fun HT_ HW_ => ?_)
      generalize w22.drew = w29 at HO228 BK224 BK225 HB hHeld ⊢
      refine take_ (i := 0) (N := some 43) (v := ?_) (a' := ?_) #[true, false, false, false, false, false, false, false, false, false, false, false, false, false, false] rfl rfl (take_ofW HT_.out HW_.out (by kernel_rfl)) (fun _ _ _ h => h) (Or.inl ⟨by rfl, ?_⟩) hHeld ?_ ?_
      rotate_left
      ·
       rintro w' ⟨s0, s1, s2, s3, s4, s5, s6, s7⟩
       go_simp
       with_reducible rfl
      rotate_left
      ·
       simp only [Act.put, List.setIfInBounds_toArray, List.set_cons_zero, List.set_cons_succ, i64_w, i32_w]
       rfl
      refine take_ (i := 2) (N := some 45) (v := ?_) (a' := ?_) #[true, false, true, false, false, false, false, false, false, false, false, false, false, false, false] rfl rfl (take_ofW HT_.out HW_.out (by kernel_rfl)) (fun _ _ _ h => h) (Or.inl ⟨by rfl, ?_⟩) hHeld ?_ ?_
      rotate_left
      ·
       rintro w' ⟨s0, s1, s2, s3, s4, s5, s6, s7⟩
       go_simp
       with_reducible rfl
      rotate_left
      ·
       simp only [Act.put, List.setIfInBounds_toArray, List.set_cons_zero, List.set_cons_succ, i64_w, i32_w]
       rfl
      refine one_ (i := 1) (N := some 44) #[true, true, true, false, false, false, false, false, false, false, false, false, false, false, false] rfl rfl (one_of HT_.out (by kernel_rfl)) (by decide) (fun K hK => ?_)
      refine goes_ Try.func19 (by kernel_rfl) rfl #[.agg #[.int .i64 a0, .int .i64 a1, .int .i64 a2, .int .u64 a3]] (by rfl) rfl rfl (by (try simp only [List.map_toArray, List.map_cons, List.map_nil]); first | done | rfl | (simp only [List.length_drop, List.length_take]; rfl)) ?_
      with_reducible refine (ctrl_Regs.calls kj9 a0 a1 a2 a3 t229 _ A23.out).mono ?_
      rintro e w30 ⟨v230, rfl, ho0, hb⟩
      refine ⟨_, rfl, ?_⟩
      have n0_ := Aside0.mk (Kd.R_elder' (by (with_reducible repeat (first | apply Kd.R_alloc | apply Kd.R_drewN | apply Kd.R_drew)); exact HO228.out) (Kd.R_base ho0) hb)
      have n1_ := Aside0.mk (Kd.R_lower (Kd.R_new' ho0 (Kd.R_lt (by (with_reducible repeat (first | apply Kd.R_alloc | apply Kd.R_drewN | apply Kd.R_drew)); exact HO228.out))) (below_size (by repeat (first | (with_reducible first | exact HB.out | apply below_alloc | apply pw_below_drewN | apply below_drew1 | refine below_set ?_ GE224.out | refine below_set ?_ GE225.out) | exact HB.out))))
      have n2_ := Aside0.mk (blk_below (g := gb224) (o := .cells #[.int .i64 a0, .int .i64 a1, .int .i64 a2, .int .u64 a3] 36 (0, 0)) (by (with_reducible repeat (first | refine blk_drewN ?_ _ | refine blk_drew ?_ | refine blk_alloc ?_ _)); exact BK224.out) hb)
      have n3_ := Aside0.mk (blk_below (g := gb225) (o := .cells #[.int .i64 a0, .int .i64 a1, .int .i64 a2, .int .u64 a3] 37 (0, 0)) (by (with_reducible repeat (first | refine blk_drewN ?_ _ | refine blk_drew ?_ | refine blk_alloc ?_ _)); exact BK225.out) hb)
      have n4_ := Aside0.mk (below_step (by repeat (first | (with_reducible first | exact HB.out | apply below_alloc | apply pw_below_drewN | apply below_drew1 | refine below_set ?_ GE224.out | refine below_set ?_ GE225.out) | exact HB.out)) hb)
      clear HO228
      clear BK224
      clear BK225
      clear HB
      have HO228 := n0_
      have HO231 := n1_
      have BK224 := n2_
      have BK225 := n3_
      have HB := n4_
      clear n0_ n1_ n2_ n3_ n4_
      (try clear hb)
      (try clear hb2)
      (try clear hk)
      (try clear hi)
      (try clear ho0)
      refine hK.out _ _ ⟨(blk_cell BK224.out 0).trans rfl, (blk_cell BK224.out 1).trans rfl, (blk_cell BK224.out 2).trans rfl, (blk_cell BK224.out 3).trans rfl, (blk_cell BK225.out 0).trans rfl, (blk_cell BK225.out 1).trans rfl, (blk_cell BK225.out 2).trans rfl, (blk_cell BK225.out 3).trans rfl⟩ (fun hHeld => ?_)
      clear hK K
      refine norm_ (a' := ?_) ?_ ?_
      rotate_left
      ·
       show Act.put _ (some 44) _ = _
       simp only [Act.put, List.setIfInBounds_toArray, List.set_cons_zero, List.set_cons_succ, i64_w, i32_w]
       rfl
      refine one_ (i := 3) (N := some 46) #[true, true, true, true, false, false, false, false, false, false, false, false, false, false, false] rfl rfl (one_of HT_.out (by kernel_rfl)) (by decide) (fun K hK => ?_)
      refine goes_ Try.func20 (by kernel_rfl) rfl #[.agg #[.int .i64 a0, .int .i64 a1, .int .i64 a2, .int .u64 a3]] (by rfl) rfl rfl (by (try simp only [List.map_toArray, List.map_cons, List.map_nil]); first | done | rfl | (simp only [List.length_drop, List.length_take]; rfl)) ?_
      with_reducible refine (busbarref21_Regs.calls kj9 a0 a1 a2 a3 t232 _ A24.out).mono ?_
      rintro e w31 ⟨v233, rfl, ho0, hb⟩
      refine ⟨_, rfl, ?_⟩
      have n0_ := Aside0.mk (Kd.R_elder' (by (with_reducible repeat (first | apply Kd.R_alloc | apply Kd.R_drewN | apply Kd.R_drew)); exact HO228.out) (Kd.R_base ho0) hb)
      have n1_ := Aside0.mk (Kd.R_elder' (by (with_reducible repeat (first | apply Kd.R_alloc | apply Kd.R_drewN | apply Kd.R_drew)); exact HO231.out) (Kd.R_base ho0) hb)
      have n2_ := Aside0.mk (Kd.R_lower (Kd.R_new' (Kd.R_new' ho0 (Kd.R_lt (by (with_reducible repeat (first | apply Kd.R_alloc | apply Kd.R_drewN | apply Kd.R_drew)); exact HO228.out))) (Kd.R_lt (by (with_reducible repeat (first | apply Kd.R_alloc | apply Kd.R_drewN | apply Kd.R_drew)); exact HO231.out))) (below_size (by repeat (first | (with_reducible first | exact HB.out | apply below_alloc | apply pw_below_drewN | apply below_drew1 | refine below_set ?_ GE224.out | refine below_set ?_ GE225.out) | exact HB.out))))
      have n3_ := Aside0.mk (blk_below (g := gb224) (o := .cells #[.int .i64 a0, .int .i64 a1, .int .i64 a2, .int .u64 a3] 36 (0, 0)) (by (with_reducible repeat (first | refine blk_drewN ?_ _ | refine blk_drew ?_ | refine blk_alloc ?_ _)); exact BK224.out) hb)
      have n4_ := Aside0.mk (blk_below (g := gb225) (o := .cells #[.int .i64 a0, .int .i64 a1, .int .i64 a2, .int .u64 a3] 37 (0, 0)) (by (with_reducible repeat (first | refine blk_drewN ?_ _ | refine blk_drew ?_ | refine blk_alloc ?_ _)); exact BK225.out) hb)
      have n5_ := Aside0.mk (below_step (by repeat (first | (with_reducible first | exact HB.out | apply below_alloc | apply pw_below_drewN | apply below_drew1 | refine below_set ?_ GE224.out | refine below_set ?_ GE225.out) | exact HB.out)) hb)
      clear HO228
      clear HO231
      clear BK224
      clear BK225
      clear HB
      have HO228 := n0_
      have HO231 := n1_
      have HO234 := n2_
      have BK224 := n3_
      have BK225 := n4_
      have HB := n5_
      clear n0_ n1_ n2_ n3_ n4_ n5_
      (try clear hb)
      (try clear hb2)
      (try clear hk)
      (try clear hi)
      (try clear ho0)
      obtain ⟨Ao32, co32, eo32⟩ := Kd.R_slice HO231.out
      (first | subst eo32 | (injection eo32 with f1_ f2_ f3_; have f4_ := f1_.symm; have f5_ := f3_.symm; clear f1_ f2_ f3_; subst f4_; subst f5_))
      obtain ⟨Ao33, co33, eo33⟩ := Kd.R_slice HO234.out
      (first | subst eo33 | (injection eo33 with f1_ f2_ f3_; have f4_ := f1_.symm; have f5_ := f3_.symm; clear f1_ f2_ f3_; subst f4_; subst f5_))
      refine hK.out _ _ ⟨(blk_cell BK224.out 0).trans rfl, (blk_cell BK224.out 1).trans rfl, (blk_cell BK224.out 2).trans rfl, (blk_cell BK224.out 3).trans rfl, (blk_cell BK225.out 0).trans rfl, (blk_cell BK225.out 1).trans rfl, (blk_cell BK225.out 2).trans rfl, (blk_cell BK225.out 3).trans rfl⟩ (fun hHeld => ?_)
      clear hK K
      refine norm_ (a' := ?_) ?_ ?_
      rotate_left
      ·
       show Act.put _ (some 46) _ = _
       simp only [Act.put, List.setIfInBounds_toArray, List.set_cons_zero, List.set_cons_succ, i64_w, i32_w]
       rfl
      refine one_ (i := 4) (N := some 47) #[true, true, true, true, true, false, false, false, false, false, false, false, false, false, false] rfl rfl (one_of HT_.out (by kernel_rfl)) (by decide) (fun K hK => ?_)
      refine goes_ Try.func18 (by kernel_rfl) rfl #[.slice Ao32 t229.length co32, .slice Ao33 t232.length co33] (by rfl) rfl rfl (by (try simp only [List.map_toArray, List.map_cons, List.map_nil]); first | done | rfl | (simp only [List.length_drop, List.length_take]; rfl)) ?_
      with_reducible refine (busbarlaw0_SameWords.calls kj9 _ _ t229 _ _ t232 true _ ?side1 ?side2 ?side3 ?side4 A25.out).mono ?_
      (case side1 => repeat (first | exact (Kd.R_reads' HO231.out).2.2 | (with_reducible refine Kd.C_alloc ?_ _) | (with_reducible refine Kd.C_drewN ?_ _) | (with_reducible refine Kd.C_drew ?_)))
      (case side2 => exact (Kd.R_reads' HO231.out).2.1)
      (case side3 => repeat (first | exact (Kd.R_reads' HO234.out).2.2 | (with_reducible refine Kd.C_alloc ?_ _) | (with_reducible refine Kd.C_drewN ?_ _) | (with_reducible refine Kd.C_drew ?_)))
      (case side4 => exact (Kd.R_reads' HO234.out).2.1)
      rintro e w' ⟨rfl, ⟨nd, rfl⟩⟩
      refine ⟨_, rfl, ?_⟩
      refine hK.out _ _ ⟨(blk_cell BK224.out 0).trans rfl, (blk_cell BK224.out 1).trans rfl, (blk_cell BK224.out 2).trans rfl, (blk_cell BK224.out 3).trans rfl, (blk_cell BK225.out 0).trans rfl, (blk_cell BK225.out 1).trans rfl, (blk_cell BK225.out 2).trans rfl, (blk_cell BK225.out 3).trans rfl⟩ (fun hHeld => ?_)
      clear hK K
      refine norm_ (a' := ?_) ?_ ?_
      rotate_left
      ·
       show Act.put _ (some 47) _ = _
       simp only [Act.put, List.setIfInBounds_toArray, List.set_cons_zero, List.set_cons_succ, i64_w, i32_w]
       rfl
      refine pure_ (i := 5) (N := some 48) (v := ?_) (a' := ?_) #[true, true, true, true, true, true, false, false, false, false, false, false, false, false, false] rfl rfl (any_of HT_.out (by kernel_rfl)) (fun _ _ _ h => h) (Or.inl ⟨by rfl, ?_⟩) ?_ ?_
      rotate_left
      ·
       intro w'
       go_simp
       with_reducible rfl
      rotate_left
      ·
       simp only [Act.put, List.setIfInBounds_toArray, List.set_cons_zero, List.set_cons_succ, i64_w, i32_w]
       rfl
      refine pure_ (i := 6) (N := some 49) (v := ?_) (a' := ?_) #[true, true, true, true, true, true, true, false, false, false, false, false, false, false, false] rfl rfl (any_of HT_.out (by kernel_rfl)) (fun _ _ _ h => h) (Or.inl ⟨by rfl, ?_⟩) ?_ ?_
      rotate_left
      ·
       intro w'
       go_simp
       with_reducible rfl
      rotate_left
      ·
       simp only [Act.put, List.setIfInBounds_toArray, List.set_cons_zero, List.set_cons_succ, i64_w, i32_w]
       rfl
      refine pure_ (i := 7) (N := some 50) (v := ?_) (a' := ?_) #[true, true, true, true, true, true, true, true, false, false, false, false, false, false, false] rfl rfl (any_of HT_.out (by kernel_rfl)) (fun _ _ _ h => h) (Or.inl ⟨by rfl, ?_⟩) ?_ ?_
      rotate_left
      ·
       intro w'
       go_simp
       with_reducible rfl
      rotate_left
      ·
       simp only [Act.put, List.setIfInBounds_toArray, List.set_cons_zero, List.set_cons_succ, i64_w, i32_w]
       rfl
      refine pure_ (i := 9) (N := some 52) (v := ?_) (a' := ?_) #[true, true, true, true, true, true, true, true, false, true, false, false, false, false, false] rfl rfl (any_of HT_.out (by kernel_rfl)) (fun _ _ _ h => h) (Or.inl ⟨by rfl, ?_⟩) ?_ ?_
      rotate_left
      ·
       intro w'
       go_simp
       with_reducible rfl
      rotate_left
      ·
       simp only [Act.put, List.setIfInBounds_toArray, List.set_cons_zero, List.set_cons_succ, i64_w, i32_w]
       rfl
      refine pure_ (i := 10) (N := some 53) (v := ?_) (a' := ?_) #[true, true, true, true, true, true, true, true, false, true, true, false, false, false, false] rfl rfl (any_of HT_.out (by kernel_rfl)) (fun _ _ _ h => h) (Or.inl ⟨by rfl, ?_⟩) ?_ ?_
      rotate_left
      ·
       intro w'
       go_simp
       with_reducible rfl
      rotate_left
      ·
       simp only [Act.put, List.setIfInBounds_toArray, List.set_cons_zero, List.set_cons_succ, i64_w, i32_w]
       rfl
      refine take_ (i := 8) (N := some 51) (v := ?_) (a' := ?_) #[true, true, true, true, true, true, true, true, true, true, true, false, false, false, false] rfl rfl (take_ofW HT_.out HW_.out (by kernel_rfl)) (fun _ _ _ h => h) (Or.inl ⟨by rfl, ?_⟩) hHeld ?_ ?_
      rotate_left
      ·
       rintro w' ⟨s0, s1, s2, s3, s4, s5, s6, s7⟩
       go_simp
       with_reducible rfl
      rotate_left
      ·
       simp only [Act.put, List.setIfInBounds_toArray, List.set_cons_zero, List.set_cons_succ, i64_w, i32_w]
       rfl
      refine one_ (i := 11) (N := some 54) #[true, true, true, true, true, true, true, true, true, true, true, true, false, false, false] rfl rfl (one_of HT_.out (by kernel_rfl)) (by decide) (fun K hK => ?_)
      refine goes_ Try.func21 (by kernel_rfl) rfl #[.agg #[.int .i64 a0, .int .i64 a1, .int .i64 a2, .int .u64 a3], .int .i64 x4_9, .int .i64 x5_9] (by rfl) rfl rfl (by (try simp only [List.map_toArray, List.map_cons, List.map_nil]); first | done | rfl | (simp only [List.length_drop, List.length_take]; rfl)) ?_
      with_reducible refine (busbarref21_ReadRegs.calls kj9 a0 a1 a2 a3 x4_9 x5_9 t236 _ A27.out).mono ?_
      rintro e w34 ⟨v237, rfl, ho0, hb⟩
      refine ⟨_, rfl, ?_⟩
      have n0_ := Aside0.mk (Kd.R_elder' (by (with_reducible repeat (first | apply Kd.R_alloc | apply Kd.R_drewN | apply Kd.R_drew)); exact HO228.out) (Kd.Q_base ho0) hb)
      have n1_ := Aside0.mk (Kd.R_elder' (by (with_reducible repeat (first | apply Kd.R_alloc | apply Kd.R_drewN | apply Kd.R_drew)); exact HO231.out) (Kd.Q_base ho0) hb)
      have n2_ := Aside0.mk (Kd.R_elder' (by (with_reducible repeat (first | apply Kd.R_alloc | apply Kd.R_drewN | apply Kd.R_drew)); exact HO234.out) (Kd.Q_base ho0) hb)
      have n3_ := Aside0.mk (Kd.Q_lower (Kd.Q_new' (Kd.Q_new' (Kd.Q_new' ho0 (Kd.R_lt (by (with_reducible repeat (first | apply Kd.R_alloc | apply Kd.R_drewN | apply Kd.R_drew)); exact HO228.out))) (Kd.R_lt (by (with_reducible repeat (first | apply Kd.R_alloc | apply Kd.R_drewN | apply Kd.R_drew)); exact HO231.out))) (Kd.R_lt (by (with_reducible repeat (first | apply Kd.R_alloc | apply Kd.R_drewN | apply Kd.R_drew)); exact HO234.out))) (below_size (by repeat (first | (with_reducible first | exact HB.out | apply below_alloc | apply pw_below_drewN | apply below_drew1 | refine below_set ?_ GE224.out | refine below_set ?_ GE225.out) | exact HB.out))))
      have n4_ := Aside0.mk (blk_below (g := gb224) (o := .cells #[.int .i64 a0, .int .i64 a1, .int .i64 a2, .int .u64 a3] 36 (0, 0)) (by (with_reducible repeat (first | refine blk_drewN ?_ _ | refine blk_drew ?_ | refine blk_alloc ?_ _)); exact BK224.out) hb)
      have n5_ := Aside0.mk (blk_below (g := gb225) (o := .cells #[.int .i64 a0, .int .i64 a1, .int .i64 a2, .int .u64 a3] 37 (0, 0)) (by (with_reducible repeat (first | refine blk_drewN ?_ _ | refine blk_drew ?_ | refine blk_alloc ?_ _)); exact BK225.out) hb)
      have n6_ := Aside0.mk (below_step (by repeat (first | (with_reducible first | exact HB.out | apply below_alloc | apply pw_below_drewN | apply below_drew1 | refine below_set ?_ GE224.out | refine below_set ?_ GE225.out) | exact HB.out)) hb)
      clear HO228
      clear HO231
      clear HO234
      clear BK224
      clear BK225
      clear HB
      have HO228 := n0_
      have HO231 := n1_
      have HO234 := n2_
      have HO238 := n3_
      have BK224 := n4_
      have BK225 := n5_
      have HB := n6_
      clear n0_ n1_ n2_ n3_ n4_ n5_ n6_
      (try clear hb)
      (try clear hb2)
      (try clear hk)
      (try clear hi)
      (try clear ho0)
      obtain ⟨Ao35, co35, eo35⟩ := Kd.R_slice HO228.out
      (first | subst eo35 | (injection eo35 with f1_ f2_ f3_; have f4_ := f1_.symm; have f5_ := f3_.symm; clear f1_ f2_ f3_; subst f4_; subst f5_))
      obtain ⟨Ao36, co36, eo36, _⟩ := Kd.Q_slice HO238.out
      (first | subst eo36 | (injection eo36 with f1_ f2_ f3_; have f4_ := f1_.symm; have f5_ := f3_.symm; clear f1_ f2_ f3_; subst f4_; subst f5_))
      refine hK.out _ _ ⟨(blk_cell BK224.out 0).trans rfl, (blk_cell BK224.out 1).trans rfl, (blk_cell BK224.out 2).trans rfl, (blk_cell BK224.out 3).trans rfl, (blk_cell BK225.out 0).trans rfl, (blk_cell BK225.out 1).trans rfl, (blk_cell BK225.out 2).trans rfl, (blk_cell BK225.out 3).trans rfl⟩ (fun hHeld => ?_)
      clear hK K
      refine norm_ (a' := ?_) ?_ ?_
      rotate_left
      ·
       show Act.put _ (some 54) _ = _
       simp only [Act.put, List.setIfInBounds_toArray, List.set_cons_zero, List.set_cons_succ, i64_w, i32_w]
       rfl
      refine one_ (i := 12) (N := some 55) #[true, true, true, true, true, true, true, true, true, true, true, true, true, false, false] rfl rfl (one_of HT_.out (by kernel_rfl)) (by decide) (fun K hK => ?_)
      refine goes_ Try.func18 (by kernel_rfl) rfl #[.slice Ao35 t226.length co35, .slice Ao36 t236.length co36] (by rfl) rfl rfl (by (try simp only [List.map_toArray, List.map_cons, List.map_nil]); first | done | rfl | (simp only [List.length_drop, List.length_take]; rfl)) ?_
      with_reducible refine (busbarlaw0_SameWords.calls kj9 _ _ t226 _ _ t236 t239 _ ?side1 ?side2 ?side3 ?side4 A28.out).mono ?_
      (case side1 => repeat (first | exact (Kd.R_reads' HO228.out).2.2 | (with_reducible refine Kd.C_alloc ?_ _) | (with_reducible refine Kd.C_drewN ?_ _) | (with_reducible refine Kd.C_drew ?_)))
      (case side2 => exact (Kd.R_reads' HO228.out).2.1)
      (case side3 => repeat (first | exact (Kd.Q_reads' HO238.out).2.2 | (with_reducible refine Kd.C_alloc ?_ _) | (with_reducible refine Kd.C_drewN ?_ _) | (with_reducible refine Kd.C_drew ?_)))
      (case side4 => exact (Kd.Q_reads' HO238.out).2.1)
      rintro e w' ⟨rfl, ⟨nd, rfl⟩⟩
      refine ⟨_, rfl, ?_⟩
      refine hK.out _ _ ⟨(blk_cell BK224.out 0).trans rfl, (blk_cell BK224.out 1).trans rfl, (blk_cell BK224.out 2).trans rfl, (blk_cell BK224.out 3).trans rfl, (blk_cell BK225.out 0).trans rfl, (blk_cell BK225.out 1).trans rfl, (blk_cell BK225.out 2).trans rfl, (blk_cell BK225.out 3).trans rfl⟩ (fun hHeld => ?_)
      clear hK K
      refine norm_ (a' := ?_) ?_ ?_
      rotate_left
      ·
       show Act.put _ (some 55) _ = _
       simp only [Act.put, List.setIfInBounds_toArray, List.set_cons_zero, List.set_cons_succ, i64_w, i32_w]
       rfl
      refine pure_ (i := 13) (N := some 56) (v := ?_) (a' := ?_) #[true, true, true, true, true, true, true, true, true, true, true, true, true, true, false] rfl rfl (any_of HT_.out (by kernel_rfl)) (fun _ _ _ h => h) (Or.inl ⟨by rfl, ?_⟩) ?_ ?_
      rotate_left
      ·
       intro w'
       go_simp
       with_reducible rfl
      rotate_left
      ·
       simp only [Act.put, List.setIfInBounds_toArray, List.set_cons_zero, List.set_cons_succ, i64_w, i32_w]
       rfl
      refine pure_ (i := 14) (N := some 57) (v := ?_) (a' := ?_) #[true, true, true, true, true, true, true, true, true, true, true, true, true, true, true] rfl rfl (any_of HT_.out (by kernel_rfl)) (fun _ _ _ h => h) (Or.inl ⟨by rfl, ?_⟩) ?_ ?_
      rotate_left
      ·
       intro w'
       go_simp
       with_reducible rfl
      rotate_left
      ·
       simp only [Act.put, List.setIfInBounds_toArray, List.set_cons_zero, List.set_cons_succ, i64_w, i32_w]
       rfl
      refine done_ (done_of HT_.out (by kernel_rfl)) ?_
      try go_wp2
      go_meet
      case rel => exact ⟨_, (!t239), (by first | rfl | (simp; done) | (simp [*]; done)), H', ⟨by have := HJ9.out; first | omega | exact Nat.le_refl _⟩, ⟨by (with_reducible repeat (first | refine blk_drewN ?_ _ | refine blk_drew ?_ | refine blk_alloc ?_ _)); exact BK224.out⟩, ⟨by (with_reducible repeat (first | refine blk_drewN ?_ _ | refine blk_drew ?_ | refine blk_alloc ?_ _)); exact BK225.out⟩, ⟨by repeat (first | (with_reducible first | exact HB.out | apply below_alloc | apply pw_below_drewN | apply below_drew1 | refine below_set ?_ GE224.out | refine below_set ?_ GE225.out) | exact HB.out)⟩⟩
     ·
      replace c26 := Bool.eq_false_iff.mpr c26
      subst c26
      have H1 : (busbarlaw23_CtrlTells.j1 kj9 a3 true a0 a1 a2 a3) = some r := by rw [if_neg (show ¬ (false = true) by decide)] at H; exact H
      clear H
      have H := H1
      clear H1
      have H' := Aside0.mk H
      clear H
      try go_wp2
      have n0_ := Aside0.mk (Kd.R_drew HO228.out)
      have n1_ := Aside0.mk (blk_drew BK224.out)
      have n2_ := Aside0.mk (blk_drew BK225.out)
      have n3_ := Aside0.mk (below_drew1 HB.out)
      clear HO228
      clear BK224
      clear BK225
      clear HB
      have HO228 := n0_
      have BK224 := n1_
      have BK225 := n2_
      have HB := n3_
      clear n0_ n1_ n2_ n3_
      refine start_ (n := 15) (S := fun w' => w'.cell? ⟨gb224, 0, none⟩ = some (.int .i64 a0) ∧ w'.cell? ⟨gb224, 1, none⟩ = some (.int .i64 a1) ∧ w'.cell? ⟨gb224, 2, none⟩ = some (.int .i64 a2) ∧ w'.cell? ⟨gb224, 3, none⟩ = some (.int .u64 a3) ∧ w'.cell? ⟨gb225, 0, none⟩ = some (.int .i64 a0) ∧ w'.cell? ⟨gb225, 1, none⟩ = some (.int .i64 a1) ∧ w'.cell? ⟨gb225, 2, none⟩ = some (.int .i64 a2) ∧ w'.cell? ⟨gb225, 3, none⟩ = some (.int .u64 a3)) (ds := []) #[false, false, false, false, false, false, false, false, false, false, false, false, false, false, false] (by kernel_rfl) rfl rfl ⟨(blk_cell BK224.out 0).trans rfl, (blk_cell BK224.out 1).trans rfl, (blk_cell BK224.out 2).trans rfl, (blk_cell BK224.out 3).trans rfl, (blk_cell BK225.out 0).trans rfl, (blk_cell BK225.out 1).trans rfl, (blk_cell BK225.out 2).trans rfl, (blk_cell BK225.out 3).trans rfl⟩ (fun hHeld => ?_); refine with_tabW busbarlaw23_CtrlTells.tab7 busbarlaw23_CtrlTells.bits7 (fun HT_ HW_ => ?_)
      generalize w22.drew = w37 at HO228 BK224 BK225 HB hHeld ⊢
      refine take_ (i := 0) (N := some 43) (v := ?_) (a' := ?_) #[true, false, false, false, false, false, false, false, false, false, false, false, false, false, false] rfl rfl (take_ofW HT_.out HW_.out (by kernel_rfl)) (fun _ _ _ h => h) (Or.inl ⟨by rfl, ?_⟩) hHeld ?_ ?_
      rotate_left
      ·
       rintro w' ⟨s0, s1, s2, s3, s4, s5, s6, s7⟩
       go_simp
       with_reducible rfl
      rotate_left
      ·
       simp only [Act.put, List.setIfInBounds_toArray, List.set_cons_zero, List.set_cons_succ, i64_w, i32_w]
       rfl
      refine take_ (i := 2) (N := some 45) (v := ?_) (a' := ?_) #[true, false, true, false, false, false, false, false, false, false, false, false, false, false, false] rfl rfl (take_ofW HT_.out HW_.out (by kernel_rfl)) (fun _ _ _ h => h) (Or.inl ⟨by rfl, ?_⟩) hHeld ?_ ?_
      rotate_left
      ·
       rintro w' ⟨s0, s1, s2, s3, s4, s5, s6, s7⟩
       go_simp
       with_reducible rfl
      rotate_left
      ·
       simp only [Act.put, List.setIfInBounds_toArray, List.set_cons_zero, List.set_cons_succ, i64_w, i32_w]
       rfl
      refine one_ (i := 1) (N := some 44) #[true, true, true, false, false, false, false, false, false, false, false, false, false, false, false] rfl rfl (one_of HT_.out (by kernel_rfl)) (by decide) (fun K hK => ?_)
      refine goes_ Try.func19 (by kernel_rfl) rfl #[.agg #[.int .i64 a0, .int .i64 a1, .int .i64 a2, .int .u64 a3]] (by rfl) rfl rfl (by (try simp only [List.map_toArray, List.map_cons, List.map_nil]); first | done | rfl | (simp only [List.length_drop, List.length_take]; rfl)) ?_
      with_reducible refine (ctrl_Regs.calls kj9 a0 a1 a2 a3 t229 _ A23.out).mono ?_
      rintro e w38 ⟨v230, rfl, ho0, hb⟩
      refine ⟨_, rfl, ?_⟩
      have n0_ := Aside0.mk (Kd.R_elder' (by (with_reducible repeat (first | apply Kd.R_alloc | apply Kd.R_drewN | apply Kd.R_drew)); exact HO228.out) (Kd.R_base ho0) hb)
      have n1_ := Aside0.mk (Kd.R_lower (Kd.R_new' ho0 (Kd.R_lt (by (with_reducible repeat (first | apply Kd.R_alloc | apply Kd.R_drewN | apply Kd.R_drew)); exact HO228.out))) (below_size (by repeat (first | (with_reducible first | exact HB.out | apply below_alloc | apply pw_below_drewN | apply below_drew1 | refine below_set ?_ GE224.out | refine below_set ?_ GE225.out) | exact HB.out))))
      have n2_ := Aside0.mk (blk_below (g := gb224) (o := .cells #[.int .i64 a0, .int .i64 a1, .int .i64 a2, .int .u64 a3] 36 (0, 0)) (by (with_reducible repeat (first | refine blk_drewN ?_ _ | refine blk_drew ?_ | refine blk_alloc ?_ _)); exact BK224.out) hb)
      have n3_ := Aside0.mk (blk_below (g := gb225) (o := .cells #[.int .i64 a0, .int .i64 a1, .int .i64 a2, .int .u64 a3] 37 (0, 0)) (by (with_reducible repeat (first | refine blk_drewN ?_ _ | refine blk_drew ?_ | refine blk_alloc ?_ _)); exact BK225.out) hb)
      have n4_ := Aside0.mk (below_step (by repeat (first | (with_reducible first | exact HB.out | apply below_alloc | apply pw_below_drewN | apply below_drew1 | refine below_set ?_ GE224.out | refine below_set ?_ GE225.out) | exact HB.out)) hb)
      clear HO228
      clear BK224
      clear BK225
      clear HB
      have HO228 := n0_
      have HO231 := n1_
      have BK224 := n2_
      have BK225 := n3_
      have HB := n4_
      clear n0_ n1_ n2_ n3_ n4_
      (try clear hb)
      (try clear hb2)
      (try clear hk)
      (try clear hi)
      (try clear ho0)
      refine hK.out _ _ ⟨(blk_cell BK224.out 0).trans rfl, (blk_cell BK224.out 1).trans rfl, (blk_cell BK224.out 2).trans rfl, (blk_cell BK224.out 3).trans rfl, (blk_cell BK225.out 0).trans rfl, (blk_cell BK225.out 1).trans rfl, (blk_cell BK225.out 2).trans rfl, (blk_cell BK225.out 3).trans rfl⟩ (fun hHeld => ?_)
      clear hK K
      refine norm_ (a' := ?_) ?_ ?_
      rotate_left
      ·
       show Act.put _ (some 44) _ = _
       simp only [Act.put, List.setIfInBounds_toArray, List.set_cons_zero, List.set_cons_succ, i64_w, i32_w]
       rfl
      refine one_ (i := 3) (N := some 46) #[true, true, true, true, false, false, false, false, false, false, false, false, false, false, false] rfl rfl (one_of HT_.out (by kernel_rfl)) (by decide) (fun K hK => ?_)
      refine goes_ Try.func20 (by kernel_rfl) rfl #[.agg #[.int .i64 a0, .int .i64 a1, .int .i64 a2, .int .u64 a3]] (by rfl) rfl rfl (by (try simp only [List.map_toArray, List.map_cons, List.map_nil]); first | done | rfl | (simp only [List.length_drop, List.length_take]; rfl)) ?_
      with_reducible refine (busbarref21_Regs.calls kj9 a0 a1 a2 a3 t232 _ A24.out).mono ?_
      rintro e w39 ⟨v233, rfl, ho0, hb⟩
      refine ⟨_, rfl, ?_⟩
      have n0_ := Aside0.mk (Kd.R_elder' (by (with_reducible repeat (first | apply Kd.R_alloc | apply Kd.R_drewN | apply Kd.R_drew)); exact HO228.out) (Kd.R_base ho0) hb)
      have n1_ := Aside0.mk (Kd.R_elder' (by (with_reducible repeat (first | apply Kd.R_alloc | apply Kd.R_drewN | apply Kd.R_drew)); exact HO231.out) (Kd.R_base ho0) hb)
      have n2_ := Aside0.mk (Kd.R_lower (Kd.R_new' (Kd.R_new' ho0 (Kd.R_lt (by (with_reducible repeat (first | apply Kd.R_alloc | apply Kd.R_drewN | apply Kd.R_drew)); exact HO228.out))) (Kd.R_lt (by (with_reducible repeat (first | apply Kd.R_alloc | apply Kd.R_drewN | apply Kd.R_drew)); exact HO231.out))) (below_size (by repeat (first | (with_reducible first | exact HB.out | apply below_alloc | apply pw_below_drewN | apply below_drew1 | refine below_set ?_ GE224.out | refine below_set ?_ GE225.out) | exact HB.out))))
      have n3_ := Aside0.mk (blk_below (g := gb224) (o := .cells #[.int .i64 a0, .int .i64 a1, .int .i64 a2, .int .u64 a3] 36 (0, 0)) (by (with_reducible repeat (first | refine blk_drewN ?_ _ | refine blk_drew ?_ | refine blk_alloc ?_ _)); exact BK224.out) hb)
      have n4_ := Aside0.mk (blk_below (g := gb225) (o := .cells #[.int .i64 a0, .int .i64 a1, .int .i64 a2, .int .u64 a3] 37 (0, 0)) (by (with_reducible repeat (first | refine blk_drewN ?_ _ | refine blk_drew ?_ | refine blk_alloc ?_ _)); exact BK225.out) hb)
      have n5_ := Aside0.mk (below_step (by repeat (first | (with_reducible first | exact HB.out | apply below_alloc | apply pw_below_drewN | apply below_drew1 | refine below_set ?_ GE224.out | refine below_set ?_ GE225.out) | exact HB.out)) hb)
      clear HO228
      clear HO231
      clear BK224
      clear BK225
      clear HB
      have HO228 := n0_
      have HO231 := n1_
      have HO234 := n2_
      have BK224 := n3_
      have BK225 := n4_
      have HB := n5_
      clear n0_ n1_ n2_ n3_ n4_ n5_
      (try clear hb)
      (try clear hb2)
      (try clear hk)
      (try clear hi)
      (try clear ho0)
      obtain ⟨Ao40, co40, eo40⟩ := Kd.R_slice HO231.out
      (first | subst eo40 | (injection eo40 with f1_ f2_ f3_; have f4_ := f1_.symm; have f5_ := f3_.symm; clear f1_ f2_ f3_; subst f4_; subst f5_))
      obtain ⟨Ao41, co41, eo41⟩ := Kd.R_slice HO234.out
      (first | subst eo41 | (injection eo41 with f1_ f2_ f3_; have f4_ := f1_.symm; have f5_ := f3_.symm; clear f1_ f2_ f3_; subst f4_; subst f5_))
      refine hK.out _ _ ⟨(blk_cell BK224.out 0).trans rfl, (blk_cell BK224.out 1).trans rfl, (blk_cell BK224.out 2).trans rfl, (blk_cell BK224.out 3).trans rfl, (blk_cell BK225.out 0).trans rfl, (blk_cell BK225.out 1).trans rfl, (blk_cell BK225.out 2).trans rfl, (blk_cell BK225.out 3).trans rfl⟩ (fun hHeld => ?_)
      clear hK K
      refine norm_ (a' := ?_) ?_ ?_
      rotate_left
      ·
       show Act.put _ (some 46) _ = _
       simp only [Act.put, List.setIfInBounds_toArray, List.set_cons_zero, List.set_cons_succ, i64_w, i32_w]
       rfl
      refine one_ (i := 4) (N := some 47) #[true, true, true, true, true, false, false, false, false, false, false, false, false, false, false] rfl rfl (one_of HT_.out (by kernel_rfl)) (by decide) (fun K hK => ?_)
      refine goes_ Try.func18 (by kernel_rfl) rfl #[.slice Ao40 t229.length co40, .slice Ao41 t232.length co41] (by rfl) rfl rfl (by (try simp only [List.map_toArray, List.map_cons, List.map_nil]); first | done | rfl | (simp only [List.length_drop, List.length_take]; rfl)) ?_
      with_reducible refine (busbarlaw0_SameWords.calls kj9 _ _ t229 _ _ t232 false _ ?side1 ?side2 ?side3 ?side4 A25.out).mono ?_
      (case side1 => repeat (first | exact (Kd.R_reads' HO231.out).2.2 | (with_reducible refine Kd.C_alloc ?_ _) | (with_reducible refine Kd.C_drewN ?_ _) | (with_reducible refine Kd.C_drew ?_)))
      (case side2 => exact (Kd.R_reads' HO231.out).2.1)
      (case side3 => repeat (first | exact (Kd.R_reads' HO234.out).2.2 | (with_reducible refine Kd.C_alloc ?_ _) | (with_reducible refine Kd.C_drewN ?_ _) | (with_reducible refine Kd.C_drew ?_)))
      (case side4 => exact (Kd.R_reads' HO234.out).2.1)
      rintro e w' ⟨rfl, ⟨nd, rfl⟩⟩
      refine ⟨_, rfl, ?_⟩
      refine hK.out _ _ ⟨(blk_cell BK224.out 0).trans rfl, (blk_cell BK224.out 1).trans rfl, (blk_cell BK224.out 2).trans rfl, (blk_cell BK224.out 3).trans rfl, (blk_cell BK225.out 0).trans rfl, (blk_cell BK225.out 1).trans rfl, (blk_cell BK225.out 2).trans rfl, (blk_cell BK225.out 3).trans rfl⟩ (fun hHeld => ?_)
      clear hK K
      refine norm_ (a' := ?_) ?_ ?_
      rotate_left
      ·
       show Act.put _ (some 47) _ = _
       simp only [Act.put, List.setIfInBounds_toArray, List.set_cons_zero, List.set_cons_succ, i64_w, i32_w]
       rfl
      refine pure_ (i := 5) (N := some 48) (v := ?_) (a' := ?_) #[true, true, true, true, true, true, false, false, false, false, false, false, false, false, false] rfl rfl (any_of HT_.out (by kernel_rfl)) (fun _ _ _ h => h) (Or.inl ⟨by rfl, ?_⟩) ?_ ?_
      rotate_left
      ·
       intro w'
       go_simp
       with_reducible rfl
      rotate_left
      ·
       simp only [Act.put, List.setIfInBounds_toArray, List.set_cons_zero, List.set_cons_succ, i64_w, i32_w]
       rfl
      refine pure_ (i := 6) (N := some 49) (v := ?_) (a' := ?_) #[true, true, true, true, true, true, true, false, false, false, false, false, false, false, false] rfl rfl (any_of HT_.out (by kernel_rfl)) (fun _ _ _ h => h) (Or.inl ⟨by rfl, ?_⟩) ?_ ?_
      rotate_left
      ·
       intro w'
       go_simp
       with_reducible rfl
      rotate_left
      ·
       simp only [Act.put, List.setIfInBounds_toArray, List.set_cons_zero, List.set_cons_succ, i64_w, i32_w]
       rfl
      refine pure_ (i := 7) (N := some 50) (v := undef) (a' := ?_) #[true, true, true, true, true, true, true, true, false, false, false, false, false, false, false] rfl rfl (any_of HT_.out (by kernel_rfl)) (fun _ _ _ h => h) (Or.inr ⟨by rfl, rfl⟩) ?_ ?_
      rotate_left
      ·
       simp only [Act.put, List.setIfInBounds_toArray, List.set_cons_zero, List.set_cons_succ, i64_w, i32_w]
       rfl
      refine pure_ (i := 8) (N := some 51) (v := undef) (a' := ?_) #[true, true, true, true, true, true, true, true, true, false, false, false, false, false, false] rfl rfl (any_of HT_.out (by kernel_rfl)) (fun _ _ _ h => h) (Or.inr ⟨by rfl, rfl⟩) ?_ ?_
      rotate_left
      ·
       simp only [Act.put, List.setIfInBounds_toArray, List.set_cons_zero, List.set_cons_succ, i64_w, i32_w]
       rfl
      refine pure_ (i := 9) (N := some 52) (v := undef) (a' := ?_) #[true, true, true, true, true, true, true, true, true, true, false, false, false, false, false] rfl rfl (any_of HT_.out (by kernel_rfl)) (fun _ _ _ h => h) (Or.inr ⟨by rfl, rfl⟩) ?_ ?_
      rotate_left
      ·
       simp only [Act.put, List.setIfInBounds_toArray, List.set_cons_zero, List.set_cons_succ, i64_w, i32_w]
       rfl
      refine pure_ (i := 10) (N := some 53) (v := undef) (a' := ?_) #[true, true, true, true, true, true, true, true, true, true, true, false, false, false, false] rfl rfl (any_of HT_.out (by kernel_rfl)) (fun _ _ _ h => h) (Or.inr ⟨by rfl, rfl⟩) ?_ ?_
      rotate_left
      ·
       simp only [Act.put, List.setIfInBounds_toArray, List.set_cons_zero, List.set_cons_succ, i64_w, i32_w]
       rfl
      refine pure_ (i := 11) (N := some 54) (v := undef) (a' := ?_) #[true, true, true, true, true, true, true, true, true, true, true, true, false, false, false] rfl rfl (any_of HT_.out (by kernel_rfl)) (fun _ _ _ h => h) (Or.inr ⟨by rfl, rfl⟩) ?_ ?_
      rotate_left
      ·
       simp only [Act.put, List.setIfInBounds_toArray, List.set_cons_zero, List.set_cons_succ, i64_w, i32_w]
       rfl
      refine pure_ (i := 12) (N := some 55) (v := undef) (a' := ?_) #[true, true, true, true, true, true, true, true, true, true, true, true, true, false, false] rfl rfl (any_of HT_.out (by kernel_rfl)) (fun _ _ _ h => h) (Or.inr ⟨by rfl, rfl⟩) ?_ ?_
      rotate_left
      ·
       simp only [Act.put, List.setIfInBounds_toArray, List.set_cons_zero, List.set_cons_succ, i64_w, i32_w]
       rfl
      refine pure_ (i := 13) (N := some 56) (v := undef) (a' := ?_) #[true, true, true, true, true, true, true, true, true, true, true, true, true, true, false] rfl rfl (any_of HT_.out (by kernel_rfl)) (fun _ _ _ h => h) (Or.inr ⟨by rfl, rfl⟩) ?_ ?_
      rotate_left
      ·
       simp only [Act.put, List.setIfInBounds_toArray, List.set_cons_zero, List.set_cons_succ, i64_w, i32_w]
       rfl
      refine pure_ (i := 14) (N := some 57) (v := ?_) (a' := ?_) #[true, true, true, true, true, true, true, true, true, true, true, true, true, true, true] rfl rfl (any_of HT_.out (by kernel_rfl)) (fun _ _ _ h => h) (Or.inl ⟨by rfl, ?_⟩) ?_ ?_
      rotate_left
      ·
       intro w'
       go_simp
       with_reducible rfl
      rotate_left
      ·
       simp only [Act.put, List.setIfInBounds_toArray, List.set_cons_zero, List.set_cons_succ, i64_w, i32_w]
       rfl
      refine done_ (done_of HT_.out (by kernel_rfl)) ?_
      try go_wp2
      go_meet
      case rel => exact ⟨_, (true), (by first | rfl | (simp; done) | (simp [*]; done)), H', ⟨by have := HJ9.out; first | omega | exact Nat.le_refl _⟩, ⟨by (with_reducible repeat (first | refine blk_drewN ?_ _ | refine blk_drew ?_ | refine blk_alloc ?_ _)); exact BK224.out⟩, ⟨by (with_reducible repeat (first | refine blk_drewN ?_ _ | refine blk_drew ?_ | refine blk_alloc ?_ _)); exact BK225.out⟩, ⟨by repeat (first | (with_reducible first | exact HB.out | apply below_alloc | apply pw_below_drewN | apply below_drew1 | refine below_set ?_ GE224.out | refine below_set ?_ GE225.out) | exact HB.out)⟩⟩
    case rest =>
     clear HC16
     try clear c1
     try clear c2
     try clear p2
     try clear c5
     try clear p6
     try clear c9
     try clear c12
     try clear c16
     try clear c17
     try clear c18
     try clear c19
     try clear c20
     try clear c21
     try clear c26
     try clear hcz20_0
     try clear hcz20_1
     try clear hcz20_2
     try clear hcz20_3
     try clear hcz21_0
     try clear hcz21_1
     try clear hcz21_2
     try clear hcz21_3
     try clear hfz20_0
     try clear hfz20_1
     try clear hfz20_2
     try clear hfz20_3
     try clear hfz21_0
     try clear hfz21_1
     try clear hfz21_2
     try clear hfz21_3
     try clear p2
     try clear p6
     obtain ⟨kq, x57_15, rfl, HA, HJ15, BK224, BK225, HB⟩ := hcut
     cases kq with
     | zero => exact absurd HA.out (by simp [busbarlaw23_CtrlTells.j1])
     | succ kj15 =>
      have H := HA.out
      clear HA
      simp only [busbarlaw23_CtrlTells.j1] at H
      by_cases c42 : x57_15 = true
      ·
       subst c42
       have H1 : (some false) = some r := by rw [if_pos rfl] at H; exact H
       clear H
       have H := H1
       clear H1
       obtain rfl := Option.some.inj H
       go_wp2
       go_ret
       exact ⟨by first | rfl | (simp [errW_none, errW_some] <;> rfl) | (simp [*, errW_none, errW_some] <;> rfl), by repeat (first | (with_reducible first | exact HB.out | apply below_alloc | apply pw_below_drewN | apply below_drew1 | refine below_set ?_ GE224.out | refine below_set ?_ GE225.out) | exact HB.out)⟩
      ·
       replace c42 := Bool.eq_false_iff.mpr c42
       subst c42
       have H1 : ((ctrl_Read.f kj15 a0 a1 a2 a3 4 8).bind fun t240 => ((word_Join.f kj15 t240 false).bind fun bt243 => (if bt243.2 = true then (some (bt243.1 == a3)) else (some false)))) = some r := by rw [if_neg (show ¬ (false = true) by decide)] at H; exact H
       clear H
       have H := H1
       clear H1
       replace H := Option.bind_eq_some_iff.mp H
       obtain ⟨t240, A430, H⟩ := H
       replace H : ((word_Join.f kj15 t240 false).bind fun bt243 => (if bt243.2 = true then (some (bt243.1 == a3)) else (some false))) = some r := H
       have A43 := Aside0.mk A430
       clear A430
       replace H := Option.bind_eq_some_iff.mp H
       obtain ⟨⟨t243, t244⟩, A440, H⟩ := H
       replace H : (if t244 = true then (some (t243 == a3)) else (some false)) = some r := H
       have A44 := Aside0.mk A440
       clear A440
       by_cases c45 : t244 = true
       ·
        subst c45
        have H1 : (some (t243 == a3)) = some r := by rw [if_pos rfl] at H; exact H
        clear H
        have H := H1
        clear H1
        obtain rfl := Option.some.inj H
        have hnb46 := NB224_225.out
        have hnc46 := NB225_224.out
        have hcz47_0 : wc.cell? ⟨gb224, 0, none⟩ = some (.int .i64 a0) := (blk_cell BK224.out 0).trans rfl
        have hcz47_1 : wc.cell? ⟨gb224, 1, none⟩ = some (.int .i64 a1) := (blk_cell BK224.out 1).trans rfl
        have hcz47_2 : wc.cell? ⟨gb224, 2, none⟩ = some (.int .i64 a2) := (blk_cell BK224.out 2).trans rfl
        have hcz47_3 : wc.cell? ⟨gb224, 3, none⟩ = some (.int .u64 a3) := (blk_cell BK224.out 3).trans rfl
        have hfz47_0 := blk_frozen BK224.out 0
        have hfz47_1 := blk_frozen BK224.out 1
        have hfz47_2 := blk_frozen BK224.out 2
        have hfz47_3 := blk_frozen BK224.out 3
        go_wp2_with (first | ((with_reducible refine gate_callee (f := 17) rfl ?_); refine goesL_ (some 60) rfl rfl Try.func17 (by kernel_rfl) rfl #[.agg #[.int .i64 a0, .int .i64 a1, .int .i64 a2, .int .u64 a3], .int .i64 4, .int .i64 8] rfl (by (try simp only [List.map_toArray, List.map_cons, List.map_nil]); first | done | rfl | (simp only [List.length_drop, List.length_take]; rfl)) ?_; (with_reducible refine (ctrl_Read.calls kj15 a0 a1 a2 a3 4 8 t240 _ A43.out).mono ?_); rintro e w48 ⟨v241, rfl, ho0, hb⟩; refine ⟨_, rfl, ?_⟩; have n0_ := Aside0.mk (Kd.R_lower ho0 (below_size (by repeat (first | (with_reducible first | exact HB.out | apply below_alloc | apply pw_below_drewN | apply below_drew1 | refine below_set ?_ GE224.out | refine below_set ?_ GE225.out) | exact HB.out)))); have n1_ := Aside0.mk (blk_below (g := gb224) (o := .cells #[.int .i64 a0, .int .i64 a1, .int .i64 a2, .int .u64 a3] 36 (0, 0)) (by (with_reducible repeat (first | refine blk_drewN ?_ _ | refine blk_drew ?_ | refine blk_alloc ?_ _)); exact BK224.out) hb); have n2_ := Aside0.mk (blk_below (g := gb225) (o := .cells #[.int .i64 a0, .int .i64 a1, .int .i64 a2, .int .u64 a3] 37 (0, 0)) (by (with_reducible repeat (first | refine blk_drewN ?_ _ | refine blk_drew ?_ | refine blk_alloc ?_ _)); exact BK225.out) hb); have n3_ := Aside0.mk (below_step (by repeat (first | (with_reducible first | exact HB.out | apply below_alloc | apply pw_below_drewN | apply below_drew1 | refine below_set ?_ GE224.out | refine below_set ?_ GE225.out) | exact HB.out)) hb); clear BK224; clear BK225; clear HB; have HO242 := n0_; have BK224 := n1_; have BK225 := n2_; have HB := n3_; clear n0_ n1_ n2_ n3_; (try clear hb); (try clear hb2); (try clear hk); (try clear hi); (try clear ho0); obtain ⟨Ao49, co49, eo49⟩ := Kd.R_slice HO242.out; subst eo49) | ((with_reducible refine gate_callee (f := 22) rfl ?_); refine goesL_ (some 61) rfl rfl Try.func22 (by kernel_rfl) rfl #[.slice Ao49 t240.length co49, .bool false] rfl (by (try simp only [List.map_toArray, List.map_cons, List.map_nil]); first | done | rfl | (simp only [List.length_drop, List.length_take]; rfl)) ?_; (with_reducible refine (word_Join.calls kj15 _ _ t240 false t243 true _ ?side1 ?side2 A44.out).mono ?_); (case side1 => repeat (first | exact (Kd.R_reads' HO242.out).2.2 | (with_reducible refine Kd.C_alloc ?_ _) | (with_reducible refine Kd.C_drewN ?_ _) | (with_reducible refine Kd.C_drew ?_))); (case side2 => exact (Kd.R_reads' HO242.out).2.1); rintro e w' ⟨rfl, ⟨nd, rfl⟩⟩; refine ⟨_, rfl, ?_⟩))
        go_ret
        exact ⟨by first | rfl | (simp [errW_none, errW_some] <;> rfl) | (simp [*, errW_none, errW_some] <;> rfl), by repeat (first | (with_reducible first | exact HB.out | apply below_alloc | apply pw_below_drewN | apply below_drew1 | refine below_set ?_ GE224.out | refine below_set ?_ GE225.out) | exact HB.out)⟩
       ·
        replace c45 := Bool.eq_false_iff.mpr c45
        subst c45
        have H1 : (some false) = some r := by rw [if_neg (show ¬ (false = true) by decide)] at H; exact H
        clear H
        have H := H1
        clear H1
        obtain rfl := Option.some.inj H
        have hnb50 := NB224_225.out
        have hnc50 := NB225_224.out
        have hcz51_0 : wc.cell? ⟨gb224, 0, none⟩ = some (.int .i64 a0) := (blk_cell BK224.out 0).trans rfl
        have hcz51_1 : wc.cell? ⟨gb224, 1, none⟩ = some (.int .i64 a1) := (blk_cell BK224.out 1).trans rfl
        have hcz51_2 : wc.cell? ⟨gb224, 2, none⟩ = some (.int .i64 a2) := (blk_cell BK224.out 2).trans rfl
        have hcz51_3 : wc.cell? ⟨gb224, 3, none⟩ = some (.int .u64 a3) := (blk_cell BK224.out 3).trans rfl
        have hfz51_0 := blk_frozen BK224.out 0
        have hfz51_1 := blk_frozen BK224.out 1
        have hfz51_2 := blk_frozen BK224.out 2
        have hfz51_3 := blk_frozen BK224.out 3
        go_wp2_with (first | ((with_reducible refine gate_callee (f := 17) rfl ?_); refine goesL_ (some 60) rfl rfl Try.func17 (by kernel_rfl) rfl #[.agg #[.int .i64 a0, .int .i64 a1, .int .i64 a2, .int .u64 a3], .int .i64 4, .int .i64 8] rfl (by (try simp only [List.map_toArray, List.map_cons, List.map_nil]); first | done | rfl | (simp only [List.length_drop, List.length_take]; rfl)) ?_; (with_reducible refine (ctrl_Read.calls kj15 a0 a1 a2 a3 4 8 t240 _ A43.out).mono ?_); rintro e w52 ⟨v241, rfl, ho0, hb⟩; refine ⟨_, rfl, ?_⟩; have n0_ := Aside0.mk (Kd.R_lower ho0 (below_size (by repeat (first | (with_reducible first | exact HB.out | apply below_alloc | apply pw_below_drewN | apply below_drew1 | refine below_set ?_ GE224.out | refine below_set ?_ GE225.out) | exact HB.out)))); have n1_ := Aside0.mk (blk_below (g := gb224) (o := .cells #[.int .i64 a0, .int .i64 a1, .int .i64 a2, .int .u64 a3] 36 (0, 0)) (by (with_reducible repeat (first | refine blk_drewN ?_ _ | refine blk_drew ?_ | refine blk_alloc ?_ _)); exact BK224.out) hb); have n2_ := Aside0.mk (blk_below (g := gb225) (o := .cells #[.int .i64 a0, .int .i64 a1, .int .i64 a2, .int .u64 a3] 37 (0, 0)) (by (with_reducible repeat (first | refine blk_drewN ?_ _ | refine blk_drew ?_ | refine blk_alloc ?_ _)); exact BK225.out) hb); have n3_ := Aside0.mk (below_step (by repeat (first | (with_reducible first | exact HB.out | apply below_alloc | apply pw_below_drewN | apply below_drew1 | refine below_set ?_ GE224.out | refine below_set ?_ GE225.out) | exact HB.out)) hb); clear BK224; clear BK225; clear HB; have HO242 := n0_; have BK224 := n1_; have BK225 := n2_; have HB := n3_; clear n0_ n1_ n2_ n3_; (try clear hb); (try clear hb2); (try clear hk); (try clear hi); (try clear ho0); obtain ⟨Ao53, co53, eo53⟩ := Kd.R_slice HO242.out; subst eo53) | ((with_reducible refine gate_callee (f := 22) rfl ?_); refine goesL_ (some 61) rfl rfl Try.func22 (by kernel_rfl) rfl #[.slice Ao53 t240.length co53, .bool false] rfl (by (try simp only [List.map_toArray, List.map_cons, List.map_nil]); first | done | rfl | (simp only [List.length_drop, List.length_take]; rfl)) ?_; (with_reducible refine (word_Join.calls kj15 _ _ t240 false t243 false _ ?side1 ?side2 A44.out).mono ?_); (case side1 => repeat (first | exact (Kd.R_reads' HO242.out).2.2 | (with_reducible refine Kd.C_alloc ?_ _) | (with_reducible refine Kd.C_drewN ?_ _) | (with_reducible refine Kd.C_drew ?_))); (case side2 => exact (Kd.R_reads' HO242.out).2.1); rintro e w' ⟨rfl, ⟨nd, rfl⟩⟩; refine ⟨_, rfl, ?_⟩))
        go_ret
        exact ⟨by first | rfl | (simp [errW_none, errW_some] <;> rfl) | (simp [*, errW_none, errW_some] <;> rfl), by repeat (first | (with_reducible first | exact HB.out | apply below_alloc | apply pw_below_drewN | apply below_drew1 | refine below_set ?_ GE224.out | refine below_set ?_ GE225.out) | exact HB.out)⟩
 ·
  replace c9 := Bool.eq_false_iff.mpr c9
  subst c9
  have H1 : (some false) = some r := by rw [if_neg (show ¬ (false = true) by decide)] at H; exact H
  clear H
  have H := H1
  clear H1
  obtain rfl := Option.some.inj H
  go_enter Try.func5, Try.ntmps5
  go_wp2_with (first | ((with_reducible refine gate_callee (f := 12) rfl ?_); refine goesL_ (some 20) rfl rfl Try.func12 (by kernel_rfl) rfl #[] rfl (by (try simp only [List.map_toArray, List.map_cons, List.map_nil]); first | done | rfl | (simp only [List.length_drop, List.length_take]; rfl)) ?_; (with_reducible refine (busbarlaw23_awake.calls k  false _ A8.out).mono ?_); rintro e w54 ⟨rfl, hb⟩; refine ⟨_, rfl, ?_⟩; have n0_ := Aside0.mk (below_step (by repeat (first | (with_reducible first | exact HB.out | apply below_alloc | apply pw_below_drewN | apply below_drew1) | exact HB.out)) hb); clear HB; have HB := n0_; clear n0_; (try clear hb); (try clear hb2); (try clear hk); (try clear hi)))
  go_ret
  exact ⟨by first | rfl | (simp [errW_none, errW_some] <;> rfl) | (simp [*, errW_none, errW_some] <;> rfl), by repeat (first | (with_reducible first | exact HB.out | apply below_alloc | apply pw_below_drewN | apply below_drew1) | exact HB.out)⟩

/-- THE ONE PURE STATEMENT of busbarlaw23_CtrlTells: yours. -/
def busbarlaw23_CtrlTells.Pure : Prop := ∀ (a0 : Int) (a1 : Int) (a2 : Int) (a3 : Int) (a4 : Int) (a5 : Int) (a6 : Bool), (Lit.int .i64 a0).wf = true → (Lit.int .i64 a1).wf = true → (Lit.int .i64 a2).wf = true → (Lit.int .u64 a3).wf = true → (Lit.int .i64 a4).wf = true → (Lit.int .i64 a5).wf = true → ∃ k, busbarlaw23_CtrlTells.f k a0 a1 a2 a3 a4 a5 a6 = some true
theorem busbarlaw23_CtrlTells.walk (P : busbarlaw23_CtrlTells.Pure) (a0 : Int) (a1 : Int) (a2 : Int) (a3 : Int) (a4 : Int) (a5 : Int) (a6 : Bool) (w : World) (w0 : (Lit.int .i64 a0).wf = true) (w1 : (Lit.int .i64 a1).wf = true) (w2 : (Lit.int .i64 a2).wf = true) (w3 : (Lit.int .u64 a3).wf = true) (w4 : (Lit.int .i64 a4).wf = true) (w5 : (Lit.int .i64 a5).wf = true) :
  Calls Try.prog 5 #[.int .i64 a0, .int .i64 a1, .int .i64 a2, .int .u64 a3, .int .i64 a4, .int .i64 a5, .bool a6] w fun e w' => e = .returned (.bool true) ∧ Below w.heap.size w w' := by
 obtain ⟨k, h⟩ := P a0 a1 a2 a3 a4 a5 a6 w0 w1 w2 w3 w4 w5
 refine (busbarlaw23_CtrlTells.calls k a0 a1 a2 a3 a4 a5 a6 true w h).mono ?_
 rintro e w' ⟨rfl, hd⟩
 exact ⟨rfl, hd⟩

end Go.Proofs.Ytkioalfallhegaa.PCtrl
