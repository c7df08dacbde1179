-- written by a program of this session (wip/pp) over the kit's print.py; Lean checks it
import Derived.Test.YtgbclemmadkcmaaPAdux0
import Derived.Test.YtgbclemmadkcmaaPAdux5
import Derived.Test.YtgbclemmadkcmaaPAdux9
import Derived.Test.YtgbclemmadkcmaaPAdux12
import Derived.Test.YtgbclemmadkcmaaPAdux16
import Derived.Test.YtgbclemmadkcmaaPAdux17
namespace Go.Proofs.Ytgbclemmadkcmaa.PAdu
open Go.RowKit Go.Proofs.YtgbclemmadkcmaaW.PrintWords Go.Proofs.YtgbclemmadkcmaaW.PrintLast Go.Proofs.YtgbclemmadkcmaaW.PrintMore
attribute [local go_sem] max2_int min2_int max_two min_two max_three min_three max_four min_four plus_setCell_drewN plus_cell_same   -- for this text's walks alone
set_option linter.unusedVariables false
set_option linter.unusedSimpArgs false
theorem Kd.L_after {α : Type} {d : Kd α} [Kd.Marked d] {e' : Nat} {W w1 : World} {base : Nat} {ok : Nat → Prop} {u v v1 : Value} {ys : List α} (h : Kd.L d e' W base (fun k => ok k ∧ some k ≠ v.ownBlock) u ys) (hg : W.grownBy w1 v.ownBlock) (hat : v1.ownBlock = v.ownBlock ∨ ∃ g, v1.ownBlock = some g ∧ W.heap.size ≤ g) : Kd.L d e' w1 base (fun k => ok k ∧ some k ≠ v1.ownBlock) u ys := ⟨h.1, Kd.R_after h.2 hg hat⟩

/-! ### busbarlaw8_AduCuts: function 4 -/
mutual
def busbarlaw8_AduCuts.j0 : Nat → List Int → Bool → Int → Bool → Option (Bool)
 | 0, _, _, _, _ => none
 | k + 1, x0, x1, x2, x22 => if x22 = true then ((busbarlaw8_awake.f).bind fun t288 => (some t288)) else (if ([] : List Int).length + x0.length < 140737488355328 then ((some (([] : List Int) ++ x0 : List Int)).bind fun y289 => (if x1 = true then (busbarlaw8_AduCuts.j1 k x2 y289 (decide ((y289.length : Int) ≥ 6))) else (busbarlaw8_AduCuts.j1 k x2 y289 false))) else (none))
def busbarlaw8_AduCuts.j1 : Nat → Int → List Int → Bool → Option (Bool)
 | 0, _, _, _ => none
 | k + 1, x2, x7, x31 => if x31 = true then ((busbarlaw0_Within.f x2 256).bind fun t292 => (if 2 < (x7.length : Int) then (if 3 < (x7.length : Int) then (if 4 < (x7.length : Int) then (if 5 < (x7.length : Int) then (busbarlaw8_AduCuts.j2 k ((((x7.set (2 : Int).toNat 0).set (3 : Int).toNat 0).set (4 : Int).toNat 0).set (5 : Int).toNat ((t292) % 256))) else (none)) else (none)) else (none)) else (none))) else (busbarlaw8_AduCuts.j2 k x7)
def busbarlaw8_AduCuts.j2 : Nat → List Int → Option (Bool)
 | 0, _ => none
 | k + 1, x7 => (busbarlaw0_LentBytes.f k x7).bind fun t297 => ((adu_Cut.f k t297).bind fun bt300 => ((busbarref5_Cut.f k x7).bind fun bt308 => (if bt300.2.2.2.2 = bt308.2.2.2.2 then (if bt300.2.2.2.1 = bt308.2.2.2.1 then ((busbarlaw8_same.f bt300.1 bt300.2.1 bt300.2.2.1 bt308.1 bt308.2.1 bt308.2.2.1).bind fun t316 => (busbarlaw8_AduCuts.j3 k x7 t297 (!t316) bt300.1 bt300.2.1 bt300.2.2.1)) else (busbarlaw8_AduCuts.j3 k x7 t297 true bt300.1 bt300.2.1 bt300.2.2.1)) else (busbarlaw8_AduCuts.j3 k x7 t297 true bt300.1 bt300.2.1 bt300.2.2.1))))
def busbarlaw8_AduCuts.j3 : Nat → List Int → List Int → Bool → Int → Int → List Int → Option (Bool)
 | 0, _, _, _, _, _, _ => none
 | k + 1, x7, x8, x70, x308000, x308001, x308002 => if x70 = true then (some false) else (busbarlaw8_AduCuts.l0 k x7 x8 0 x308000 x308001 x308002)
def busbarlaw8_AduCuts.l0 : Nat → List Int → List Int → Int → Int → Int → List Int → Option (Bool)
 | 0, _, _, _, _, _, _ => none
 | k + 1, x7, x8, x15, x308000, x308001, x308002 => if x15 < (x308002.length : Int) then (if 0 ≤ x15 then (busbarlaw8_AduCuts.l0 k x7 x8 (wrap64 (x15 + 1)) x308000 x308001 (x308002.set (x15 : Int).toNat (((rd x308002 x15) + 1) % 256))) else (none)) else ((busbarlaw0_StaysBytes.f k x8 x7).bind fun t319 => (some t319))
end
def busbarlaw8_AduCuts.f (k : Nat) (l0 : List Int) (a1 : Bool) (a2 : Int) : Option (Bool) := if (l0.length : Int) > 400 then (busbarlaw8_AduCuts.j0 k l0 a1 a2 true) else ((busbarlaw8_awake.f).bind fun t287 => (busbarlaw8_AduCuts.j0 k l0 a1 a2 (!t287)))
theorem busbarlaw8_AduCuts.mono_l : ∀ k, (∀ y0 y1 y2 y3, LeO (busbarlaw8_AduCuts.j0 k y0 y1 y2 y3) (busbarlaw8_AduCuts.j0 (k + 1) y0 y1 y2 y3)) ∧ (∀ y0 y1 y2, LeO (busbarlaw8_AduCuts.j1 k y0 y1 y2) (busbarlaw8_AduCuts.j1 (k + 1) y0 y1 y2)) ∧ (∀ y0, LeO (busbarlaw8_AduCuts.j2 k y0) (busbarlaw8_AduCuts.j2 (k + 1) y0)) ∧ (∀ y0 y1 y2 y3 y4 y5, LeO (busbarlaw8_AduCuts.j3 k y0 y1 y2 y3 y4 y5) (busbarlaw8_AduCuts.j3 (k + 1) y0 y1 y2 y3 y4 y5)) ∧ (∀ y0 y1 y2 y3 y4 y5, LeO (busbarlaw8_AduCuts.l0 k y0 y1 y2 y3 y4 y5) (busbarlaw8_AduCuts.l0 (k + 1) y0 y1 y2 y3 y4 y5))
 | 0 => ⟨fun _ _ _ _ r h => by simp [busbarlaw8_AduCuts.j0] at h, fun _ _ _ r h => by simp [busbarlaw8_AduCuts.j1] at h, fun _ r h => by simp [busbarlaw8_AduCuts.j2] at h, fun _ _ _ _ _ _ r h => by simp [busbarlaw8_AduCuts.j3] at h, fun _ _ _ _ _ _ r h => by simp [busbarlaw8_AduCuts.l0] at h⟩
 | k + 1 => by
  obtain ⟨ih0, ih1, ih2, ih3, ih4⟩ := busbarlaw8_AduCuts.mono_l k
  refine ⟨?_, ?_, ?_, ?_, ?_⟩
  ·
   intro y0 y1 y2 y3
   unfold busbarlaw8_AduCuts.j0
   repeat' first
   | (with_reducible exact ih0 _ _ _ _)
   | (with_reducible exact ih1 _ _ _)
   | (with_reducible exact ih2 _)
   | (with_reducible exact ih3 _ _ _ _ _ _)
   | (with_reducible exact ih4 _ _ _ _ _ _)
   | (with_reducible exact adu_Cut.mono _ _)
   | (with_reducible exact busbarlaw0_LentBytes.mono _ _)
   | (with_reducible exact busbarlaw0_StaysBytes.mono _ _ _)
   | (with_reducible exact busbarref5_Cut.mono _ _)
   | (with_reducible exact LeO.refl _)
   | (with_reducible exact LeO.none _)
   | (with_reducible refine LeO.ite ?_ ?_)
   | (with_reducible refine LeO.bind ?_ (fun _ => ?_))
   | exact ih0 _ _ _ _
   | exact ih1 _ _ _
   | exact ih2 _
   | exact ih3 _ _ _ _ _ _
   | exact ih4 _ _ _ _ _ _
   | exact adu_Cut.mono _ _
   | exact busbarlaw0_LentBytes.mono _ _
   | exact busbarlaw0_StaysBytes.mono _ _ _
   | exact busbarref5_Cut.mono _ _
   | exact LeO.none _
   | refine LeO.ite ?_ ?_
   | refine LeO.bind ?_ (fun _ => ?_)
  ·
   intro y0 y1 y2
   unfold busbarlaw8_AduCuts.j1
   repeat' first
   | (with_reducible exact ih0 _ _ _ _)
   | (with_reducible exact ih1 _ _ _)
   | (with_reducible exact ih2 _)
   | (with_reducible exact ih3 _ _ _ _ _ _)
   | (with_reducible exact ih4 _ _ _ _ _ _)
   | (with_reducible exact adu_Cut.mono _ _)
   | (with_reducible exact busbarlaw0_LentBytes.mono _ _)
   | (with_reducible exact busbarlaw0_StaysBytes.mono _ _ _)
   | (with_reducible exact busbarref5_Cut.mono _ _)
   | (with_reducible exact LeO.refl _)
   | (with_reducible exact LeO.none _)
   | (with_reducible refine LeO.ite ?_ ?_)
   | (with_reducible refine LeO.bind ?_ (fun _ => ?_))
   | exact ih0 _ _ _ _
   | exact ih1 _ _ _
   | exact ih2 _
   | exact ih3 _ _ _ _ _ _
   | exact ih4 _ _ _ _ _ _
   | exact adu_Cut.mono _ _
   | exact busbarlaw0_LentBytes.mono _ _
   | exact busbarlaw0_StaysBytes.mono _ _ _
   | exact busbarref5_Cut.mono _ _
   | exact LeO.none _
   | refine LeO.ite ?_ ?_
   | refine LeO.bind ?_ (fun _ => ?_)
  ·
   intro y0
   unfold busbarlaw8_AduCuts.j2
   repeat' first
   | (with_reducible exact ih0 _ _ _ _)
   | (with_reducible exact ih1 _ _ _)
   | (with_reducible exact ih2 _)
   | (with_reducible exact ih3 _ _ _ _ _ _)
   | (with_reducible exact ih4 _ _ _ _ _ _)
   | (with_reducible exact adu_Cut.mono _ _)
   | (with_reducible exact busbarlaw0_LentBytes.mono _ _)
   | (with_reducible exact busbarlaw0_StaysBytes.mono _ _ _)
   | (with_reducible exact busbarref5_Cut.mono _ _)
   | (with_reducible exact LeO.refl _)
   | (with_reducible exact LeO.none _)
   | (with_reducible refine LeO.ite ?_ ?_)
   | (with_reducible refine LeO.bind ?_ (fun _ => ?_))
   | exact ih0 _ _ _ _
   | exact ih1 _ _ _
   | exact ih2 _
   | exact ih3 _ _ _ _ _ _
   | exact ih4 _ _ _ _ _ _
   | exact adu_Cut.mono _ _
   | exact busbarlaw0_LentBytes.mono _ _
   | exact busbarlaw0_StaysBytes.mono _ _ _
   | exact busbarref5_Cut.mono _ _
   | exact LeO.none _
   | refine LeO.ite ?_ ?_
   | refine LeO.bind ?_ (fun _ => ?_)
  ·
   intro y0 y1 y2 y3 y4 y5
   unfold busbarlaw8_AduCuts.j3
   repeat' first
   | (with_reducible exact ih0 _ _ _ _)
   | (with_reducible exact ih1 _ _ _)
   | (with_reducible exact ih2 _)
   | (with_reducible exact ih3 _ _ _ _ _ _)
   | (with_reducible exact ih4 _ _ _ _ _ _)
   | (with_reducible exact adu_Cut.mono _ _)
   | (with_reducible exact busbarlaw0_LentBytes.mono _ _)
   | (with_reducible exact busbarlaw0_StaysBytes.mono _ _ _)
   | (with_reducible exact busbarref5_Cut.mono _ _)
   | (with_reducible exact LeO.refl _)
   | (with_reducible exact LeO.none _)
   | (with_reducible refine LeO.ite ?_ ?_)
   | (with_reducible refine LeO.bind ?_ (fun _ => ?_))
   | exact ih0 _ _ _ _
   | exact ih1 _ _ _
   | exact ih2 _
   | exact ih3 _ _ _ _ _ _
   | exact ih4 _ _ _ _ _ _
   | exact adu_Cut.mono _ _
   | exact busbarlaw0_LentBytes.mono _ _
   | exact busbarlaw0_StaysBytes.mono _ _ _
   | exact busbarref5_Cut.mono _ _
   | exact LeO.none _
   | refine LeO.ite ?_ ?_
   | refine LeO.bind ?_ (fun _ => ?_)
  ·
   intro y0 y1 y2 y3 y4 y5
   unfold busbarlaw8_AduCuts.l0
   repeat' first
   | (with_reducible exact ih0 _ _ _ _)
   | (with_reducible exact ih1 _ _ _)
   | (with_reducible exact ih2 _)
   | (with_reducible exact ih3 _ _ _ _ _ _)
   | (with_reducible exact ih4 _ _ _ _ _ _)
   | (with_reducible exact adu_Cut.mono _ _)
   | (with_reducible exact busbarlaw0_LentBytes.mono _ _)
   | (with_reducible exact busbarlaw0_StaysBytes.mono _ _ _)
   | (with_reducible exact busbarref5_Cut.mono _ _)
   | (with_reducible exact LeO.refl _)
   | (with_reducible exact LeO.none _)
   | (with_reducible refine LeO.ite ?_ ?_)
   | (with_reducible refine LeO.bind ?_ (fun _ => ?_))
   | exact ih0 _ _ _ _
   | exact ih1 _ _ _
   | exact ih2 _
   | exact ih3 _ _ _ _ _ _
   | exact ih4 _ _ _ _ _ _
   | exact adu_Cut.mono _ _
   | exact busbarlaw0_LentBytes.mono _ _
   | exact busbarlaw0_StaysBytes.mono _ _ _
   | exact busbarref5_Cut.mono _ _
   | exact LeO.none _
   | refine LeO.ite ?_ ?_
   | refine LeO.bind ?_ (fun _ => ?_)
theorem busbarlaw8_AduCuts.mono : ∀ a0 a1 a2 k, LeO (busbarlaw8_AduCuts.f k a0 a1 a2) (busbarlaw8_AduCuts.f (k + 1) a0 a1 a2) := by
 intro a0 a1 a2 k
 obtain ⟨ih0, ih1, ih2, ih3, ih4⟩ := busbarlaw8_AduCuts.mono_l k
 unfold busbarlaw8_AduCuts.f
 repeat' first
   | (with_reducible exact ih0 _ _ _ _)
   | (with_reducible exact ih1 _ _ _)
   | (with_reducible exact ih2 _)
   | (with_reducible exact ih3 _ _ _ _ _ _)
   | (with_reducible exact ih4 _ _ _ _ _ _)
   | (with_reducible exact adu_Cut.mono _ _)
   | (with_reducible exact busbarlaw0_LentBytes.mono _ _)
   | (with_reducible exact busbarlaw0_StaysBytes.mono _ _ _)
   | (with_reducible exact busbarref5_Cut.mono _ _)
   | (with_reducible exact LeO.refl _)
   | (with_reducible exact LeO.none _)
   | (with_reducible refine LeO.ite ?_ ?_)
   | (with_reducible refine LeO.bind ?_ (fun _ => ?_))
   | exact ih0 _ _ _ _
   | exact ih1 _ _ _
   | exact ih2 _
   | exact ih3 _ _ _ _ _ _
   | exact ih4 _ _ _ _ _ _
   | exact adu_Cut.mono _ _
   | exact busbarlaw0_LentBytes.mono _ _
   | exact busbarlaw0_StaysBytes.mono _ _ _
   | exact busbarref5_Cut.mono _ _
   | exact LeO.none _
   | refine LeO.ite ?_ ?_
   | refine LeO.bind ?_ (fun _ => ?_)
set_option maxHeartbeats 8000000 in
set_option maxRecDepth 100000 in
theorem busbarlaw8_AduCuts.calls (k : Nat) (A0 : Option Addr) (c0 : Nat) (l0 : List Int) (a1 : Bool) (a2 : Int) (r : Bool) (w : World) (hr0 : Kd.C (Kd.int .u8) w A0 l0.length l0) (hc0 : l0.length ≤ c0) (h : busbarlaw8_AduCuts.f k l0 a1 a2 = some r) :
  Calls Try.prog 4 #[.slice A0 l0.length c0, .bool a1, .int .i64 a2] w fun e w' => e = .returned (.bool r) ∧ Below w.heap.size w w' := by
 have hu30 := Try.underlying30
 have hu32 := Try.underlying32
 have HR0 := Aside0.mk hr0
 have HC0 := Aside0.mk hc0
 clear hr0 hc0
 have HB := Aside0.mk (Below.refl w.heap.size w)
 have H : (if (l0.length : Int) > 400 then (busbarlaw8_AduCuts.j0 k l0 a1 a2 true) else ((busbarlaw8_awake.f).bind fun t287 => (busbarlaw8_AduCuts.j0 k l0 a1 a2 (!t287)))) = some r := h
 clear h
 have HC4 := Aside0.mk H
 clear H
 go_enter Try.func4, Try.ntmps4
 go_upto_region 1 with (fail)
 go_cut [22] (fun v22 wc => ∃ (kq : Nat) (x22_3 : Bool), v22 = .bool x22_3 ∧ Aside0 (busbarlaw8_AduCuts.j0 kq l0 a1 a2 x22_3 = some r) ∧ Aside0 (kq ≤ k) ∧ Aside0 (Below w.heap.size w wc))
 case first =>
  have H := HC4.out
  clear HC4
  by_cases c5 : (l0.length : Int) > 400
  ·
   rw [if_pos c5] at H
   have c5b0 : decide (400 < (l0.length : Int)) = true := decide_eq_true c5
   have c5b1 : decide (400 < l0.length) = true := decide_eq_true (by omega)
   clear c5
   (first | rw [c5b0] | (simp only [i64_w, i32_w]; rw [c5b0]) | skip)
   have H' := Aside0.mk H
   clear H
   go_wp2
   go_meet
   case rel => exact ⟨_, (true), (by first | rfl | (simp; done) | (simp [*]; done)), H', ⟨by first | omega | exact Nat.le_refl _⟩, ⟨by repeat (first | (with_reducible first | exact HB.out | apply below_alloc | apply pw_below_drewN | apply below_drew1) | exact HB.out)⟩⟩
  ·
   rw [if_neg c5] at H
   have c5b0 : decide (400 < (l0.length : Int)) = false := decide_eq_false c5
   have c5b1 : decide (400 < l0.length) = false := decide_eq_false (by omega)
   clear c5
   (first | rw [c5b0] | (simp only [i64_w, i32_w]; rw [c5b0]) | skip)
   replace H := Option.bind_eq_some_iff.mp H
   obtain ⟨t287, A60, H⟩ := H
   replace H : (busbarlaw8_AduCuts.j0 k l0 a1 a2 (!t287)) = some r := H
   have A6 := Aside0.mk A60
   clear A60
   have H' := Aside0.mk H
   clear H
   go_wp2_with (first | (go_at_call 11; (with_reducible refine (busbarlaw8_awake.calls  t287 _ A6.out).mono ?_); rintro e w7 ⟨rfl, hb⟩; have n0_ := Aside0.mk (below_step (by repeat (first | (with_reducible first | exact HB.out | apply below_alloc | apply pw_below_drewN | apply below_drew1) | exact HB.out)) hb); clear HB; have HB := n0_; clear n0_; (try clear hb); (try clear hb2); (try clear hk); (try clear hi)))
   go_meet
   case rel => exact ⟨_, (!t287), (by first | rfl | (simp; done) | (simp [*]; done)), H', ⟨by first | omega | exact Nat.le_refl _⟩, ⟨by repeat (first | (with_reducible first | exact HB.out | apply below_alloc | apply pw_below_drewN | apply below_drew1) | exact HB.out)⟩⟩
 case rest =>
  clear HC4
  try clear p2
  try clear c4
  try clear c5
  try clear c5b0
  try clear c5b1
  obtain ⟨kq, x22_3, rfl, HA, HJ3, HB⟩ := hcut
  cases kq with
  | zero => exact absurd HA.out (by simp [busbarlaw8_AduCuts.j0])
  | succ kj3 =>
   have H := HA.out
   clear HA
   simp only [busbarlaw8_AduCuts.j0] at H
   by_cases c8 : x22_3 = true
   ·
    subst c8
    have H1 : ((busbarlaw8_awake.f).bind fun t288 => (some t288)) = some r := by rw [if_pos rfl] at H; exact H
    clear H
    have H := H1
    clear H1
    replace H := Option.bind_eq_some_iff.mp H
    obtain ⟨t288, A90, H⟩ := H
    replace H : (some t288) = some r := H
    have A9 := Aside0.mk A90
    clear A90
    obtain rfl := Option.some.inj H
    go_wp2_with (first | ((with_reducible refine gate_callee (f := 11) rfl ?_); refine goesL_ (some 23) rfl rfl Try.func11 (by kernel_rfl) rfl #[] rfl (by (try simp only [List.map_toArray, List.map_cons, List.map_nil]); first | done | rfl | (simp only [List.length_drop, List.length_take]; rfl)) ?_; (with_reducible refine (busbarlaw8_awake.calls  t288 _ A9.out).mono ?_); rintro e w10 ⟨rfl, hb⟩; refine ⟨_, rfl, ?_⟩; have n0_ := Aside0.mk (below_step (by repeat (first | (with_reducible first | exact HB.out | apply below_alloc | apply pw_below_drewN | apply below_drew1) | exact HB.out)) hb); clear HB; have HB := n0_; clear n0_; (try clear hb); (try clear hb2); (try clear hk); (try clear hi)))
    go_ret
    exact ⟨by first | rfl | (simp [errW_none, errW_some] <;> rfl) | (simp [*, errW_none, errW_some] <;> rfl), by repeat (first | (with_reducible first | exact HB.out | apply below_alloc | apply pw_below_drewN | apply below_drew1) | exact HB.out)⟩
   ·
    replace c8 := Bool.eq_false_iff.mpr c8
    subst c8
    have H1 : (if ([] : List Int).length + l0.length < 140737488355328 then ((some (([] : List Int) ++ l0 : List Int)).bind fun y289 => (if a1 = true then (busbarlaw8_AduCuts.j1 kj3 a2 y289 (decide ((y289.length : Int) ≥ 6))) else (busbarlaw8_AduCuts.j1 kj3 a2 y289 false))) else (none)) = some r := by rw [if_neg (show ¬ (false = true) by decide)] at H; exact H
    clear H
    have H := H1
    clear H1
    by_cases c11 : ([] : List Int).length + l0.length < 140737488355328
    ·
     rw [if_pos c11] at H
     have LMc11 := Aside0.mk c11
     clear c11
     obtain ⟨y289, hy289⟩ : ∃ y_ : List Int, y_ = (([] : List Int) ++ l0) := ⟨_, rfl⟩
     replace H : (if a1 = true then (busbarlaw8_AduCuts.j1 kj3 a2 y289 (decide ((y289.length : Int) ≥ 6))) else (busbarlaw8_AduCuts.j1 kj3 a2 y289 false)) = some r := by first | (rw [hy289]; with_reducible exact H) | (have H2_ := (Option.bind_some _ _).symm.trans H; rw [hy289]; with_reducible exact H2_) | (have H2_ := (Option.bind_some _ _).symm.trans H; with_reducible exact H2_) | with_reducible exact H | (rw [hy289]; exact H) | exact H
     have Ny289 := Aside0.mk hy289
     clear hy289
     have HC12 := Aside0.mk H
     clear H
     go_upto_region 4 with (first | ((with_reducible refine gate_builtin (b := .append) (xs := #[.const (.slice none 0 0), .tmp 24]) rfl ?_); (try (refine gate_guard (by rfl) ?_; dsimp only)); at_builtin; refine Kd.R_append_rows (Kd.int .u8) (w0 := w) w.heap.size rfl (.const (.slice none 0 0)) (.tmp 24) 22 5 (.int .u8 0) 1 rfl Try.underlying22 info5 rfl (by decide) (by omega) (.slice none 0 0) ([] : List Int) l0 _ _ _ (fun _ => True) (fun _ => False) rfl rfl ?aO ?aR (fun _ _ h => h) (fun _ h => h.elim) ?aF ?aB ?aS ?aL ?_; (case aR => repeat (first | exact (Kd.C_below HR0.out HB.out) | (with_reducible refine Kd.C_alloc ?_ _) | (with_reducible refine Kd.C_drewN ?_ _) | (with_reducible refine Kd.C_drew ?_))); (case aB => exact (by repeat (first | (with_reducible first | exact HB.out | apply below_alloc | apply pw_below_drewN | apply below_drew1) | exact HB.out))); (case aF => exact (fun _ _ => trivial)); (case aO => exact ((Kd.R_nil _ _ _ _ (fun _ => True)))); (case aS => exact (below_size (by repeat (first | (with_reducible first | exact HB.out | apply below_alloc | apply pw_below_drewN | apply below_drew1) | exact HB.out)))); (case aL => have := LMc11.out; omega); intro v290 w13 ho hb hg hat; rw [← Ny289.out] at ho; have n0_ := Aside0.mk (hb); have n1_ := Aside0.mk (ho); clear HB; have HB := n0_; have HO291 := n1_; clear n0_ n1_; clear ho hb hg hat))
     (try simp only [Act.put, List.setIfInBounds_toArray, List.set_cons_zero, List.set_cons_succ])
     go_cut [31] (fun v31 wc => ∃ (kq : Nat) (x31_11 : Bool), v31 = .bool x31_11 ∧ Aside0 (busbarlaw8_AduCuts.j1 kq a2 y289 x31_11 = some r) ∧ Aside0 (kq ≤ kj3) ∧ Aside0 (Kd.R (Kd.int .u8) 5 wc w.heap.size (fun _ => True) v290 y289) ∧ Aside0 (Below w.heap.size w wc))
     case first =>
      have H := HC12.out
      clear HC12
      by_cases c14 : a1 = true
      ·
       subst c14
       have H1 : (busbarlaw8_AduCuts.j1 kj3 a2 y289 (decide ((y289.length : Int) ≥ 6))) = some r := by rw [if_pos rfl] at H; exact H
       clear H
       have H := H1
       clear H1
       have H' := Aside0.mk H
       clear H
       obtain ⟨Ao15, co15, eo15⟩ := Kd.R_slice HO291.out
       subst eo15
       go_wp2
       go_meet
       case rel => exact ⟨_, (decide ((y289.length : Int) ≥ 6)), (by first | rfl | (simp; done) | (simp [*]; done)), H', ⟨by have := HJ3.out; first | omega | exact Nat.le_refl _⟩, ⟨by (with_reducible repeat (first | apply Kd.R_alloc | apply Kd.R_drewN | apply Kd.R_drew)); exact HO291.out⟩, ⟨by repeat (first | (with_reducible first | exact HB.out | apply below_alloc | apply pw_below_drewN | apply below_drew1) | exact HB.out)⟩⟩
      ·
       replace c14 := Bool.eq_false_iff.mpr c14
       subst c14
       have H1 : (busbarlaw8_AduCuts.j1 kj3 a2 y289 false) = some r := by rw [if_neg (show ¬ (false = true) by decide)] at H; exact H
       clear H
       have H := H1
       clear H1
       have H' := Aside0.mk H
       clear H
       go_wp2
       go_meet
       case rel => exact ⟨_, (false), (by first | rfl | (simp; done) | (simp [*]; done)), H', ⟨by have := HJ3.out; first | omega | exact Nat.le_refl _⟩, ⟨by (with_reducible repeat (first | apply Kd.R_alloc | apply Kd.R_drewN | apply Kd.R_drew)); exact HO291.out⟩, ⟨by repeat (first | (with_reducible first | exact HB.out | apply below_alloc | apply pw_below_drewN | apply below_drew1) | exact HB.out)⟩⟩
     case rest =>
      clear HC12
      try clear c1
      try clear p2
      try clear c4
      try clear c5
      try clear c5b0
      try clear c5b1
      try clear c8
      try clear c11
      try clear c14
      try clear p2
      obtain ⟨kq, x31_11, rfl, HA, HJ11, HO_7, HB⟩ := hcut
      cases kq with
      | zero => exact absurd HA.out (by simp [busbarlaw8_AduCuts.j1])
      | succ kj11 =>
       have H := HA.out
       clear HA
       simp only [busbarlaw8_AduCuts.j1] at H
       have HC16 := Aside0.mk H
       clear H
       go_upto_if 31 with (fail)
       go_cut [] (fun wc => ∃ (kq : Nat) (x7_15 : List Int), Aside0 (busbarlaw8_AduCuts.j2 kq x7_15 = some r) ∧ Aside0 (kq ≤ kj11) ∧ Aside0 (Kd.R (Kd.int .u8) 5 wc w.heap.size (fun _ => True) v290 x7_15) ∧ Aside0 (Below w.heap.size w wc))
       case first =>
        have H := HC16.out
        clear HC16
        by_cases c17 : x31_11 = true
        ·
         subst c17
         have H1 : ((busbarlaw0_Within.f a2 256).bind fun t292 => (if 2 < (y289.length : Int) then (if 3 < (y289.length : Int) then (if 4 < (y289.length : Int) then (if 5 < (y289.length : Int) then (busbarlaw8_AduCuts.j2 kj11 ((((y289.set (2 : Int).toNat 0).set (3 : Int).toNat 0).set (4 : Int).toNat 0).set (5 : Int).toNat ((t292) % 256))) else (none)) else (none)) else (none)) else (none))) = some r := by rw [if_pos rfl] at H; exact H
         clear H
         have H := H1
         clear H1
         replace H := Option.bind_eq_some_iff.mp H
         obtain ⟨t292, A180, H⟩ := H
         replace H : (if 2 < (y289.length : Int) then (if 3 < (y289.length : Int) then (if 4 < (y289.length : Int) then (if 5 < (y289.length : Int) then (busbarlaw8_AduCuts.j2 kj11 ((((y289.set (2 : Int).toNat 0).set (3 : Int).toNat 0).set (4 : Int).toNat 0).set (5 : Int).toNat ((t292) % 256))) else (none)) else (none)) else (none)) else (none)) = some r := H
         have A18 := Aside0.mk A180
         clear A180
         by_cases c19 : 2 < (y289.length : Int)
         ·
          rw [if_pos c19] at H
          have c19b0 : decide (2 < (y289.length : Int)) = true := decide_eq_true c19
          have c19b1 : decide (2 < y289.length) = true := decide_eq_true (by omega)
          clear c19
          (first | rw [c19b0] | (simp only [i64_w, i32_w]; rw [c19b0]) | skip)
          obtain ⟨y293, hy293⟩ : ∃ y_ : List Int, y_ = (y289.set (2 : Int).toNat 0) := ⟨_, rfl⟩
          replace H : (if 3 < (y289.length : Int) then (if 4 < (y289.length : Int) then (if 5 < (y289.length : Int) then (busbarlaw8_AduCuts.j2 kj11 (((y293.set (3 : Int).toNat 0).set (4 : Int).toNat 0).set (5 : Int).toNat ((t292) % 256))) else (none)) else (none)) else (none)) = some r := by first | (rw [hy293]; with_reducible exact H) | (have H2_ := (Option.bind_some _ _).symm.trans H; rw [hy293]; with_reducible exact H2_) | (have H2_ := (Option.bind_some _ _).symm.trans H; with_reducible exact H2_) | with_reducible exact H | (rw [hy293]; exact H) | exact H
          have Ny293 := Aside0.mk hy293
          clear hy293
          by_cases c21 : 3 < (y289.length : Int)
          ·
           rw [if_pos c21] at H
           have c21b0 : decide (3 < (y289.length : Int)) = true := decide_eq_true c21
           have c21b1 : decide (3 < y289.length) = true := decide_eq_true (by omega)
           clear c21
           obtain ⟨y294, hy294⟩ : ∃ y_ : List Int, y_ = (y293.set (3 : Int).toNat 0) := ⟨_, rfl⟩
           replace H : (if 4 < (y289.length : Int) then (if 5 < (y289.length : Int) then (busbarlaw8_AduCuts.j2 kj11 ((y294.set (4 : Int).toNat 0).set (5 : Int).toNat ((t292) % 256))) else (none)) else (none)) = some r := by first | (rw [hy294]; with_reducible exact H) | (have H2_ := (Option.bind_some _ _).symm.trans H; rw [hy294]; with_reducible exact H2_) | (have H2_ := (Option.bind_some _ _).symm.trans H; with_reducible exact H2_) | with_reducible exact H | (rw [hy294]; exact H) | exact H
           have Ny294 := Aside0.mk hy294
           clear hy294
           by_cases c23 : 4 < (y289.length : Int)
           ·
            rw [if_pos c23] at H
            have c23b0 : decide (4 < (y289.length : Int)) = true := decide_eq_true c23
            have c23b1 : decide (4 < y289.length) = true := decide_eq_true (by omega)
            clear c23
            obtain ⟨y295, hy295⟩ : ∃ y_ : List Int, y_ = (y294.set (4 : Int).toNat 0) := ⟨_, rfl⟩
            replace H : (if 5 < (y289.length : Int) then (busbarlaw8_AduCuts.j2 kj11 (y295.set (5 : Int).toNat ((t292) % 256))) else (none)) = some r := by first | (rw [hy295]; with_reducible exact H) | (have H2_ := (Option.bind_some _ _).symm.trans H; rw [hy295]; with_reducible exact H2_) | (have H2_ := (Option.bind_some _ _).symm.trans H; with_reducible exact H2_) | with_reducible exact H | (rw [hy295]; exact H) | exact H
            have Ny295 := Aside0.mk hy295
            clear hy295
            by_cases c25 : 5 < (y289.length : Int)
            ·
             rw [if_pos c25] at H
             have c25b0 : decide (5 < (y289.length : Int)) = true := decide_eq_true c25
             have c25b1 : decide (5 < y289.length) = true := decide_eq_true (by omega)
             clear c25
             obtain ⟨y296, hy296⟩ : ∃ y_ : List Int, y_ = (y295.set (5 : Int).toNat ((t292) % 256)) := ⟨_, rfl⟩
             replace H : (busbarlaw8_AduCuts.j2 kj11 y296) = some r := by first | (rw [hy296]; with_reducible exact H) | (have H2_ := (Option.bind_some _ _).symm.trans H; rw [hy296]; with_reducible exact H2_) | (have H2_ := (Option.bind_some _ _).symm.trans H; with_reducible exact H2_) | with_reducible exact H | (rw [hy296]; exact H) | exact H
             have Ny296 := Aside0.mk hy296
             clear hy296
             have H' := Aside0.mk H
             clear H
             go_wp2_with (first | ((with_reducible refine gate_callee (f := 12) rfl ?_); refine goesL_ (some 37) rfl rfl Try.func12 (by kernel_rfl) rfl #[.int .i64 a2, .int .i64 256] rfl (by (try simp only [List.map_toArray, List.map_cons, List.map_nil]); first | done | rfl | (simp only [List.length_drop, List.length_take]; rfl)) ?_; (with_reducible refine (busbarlaw0_Within.calls a2 256 t292 _ A18.out).mono ?_); rintro e w' ⟨rfl, ⟨nd, rfl⟩⟩; refine ⟨_, rfl, ?_⟩; (try (rw [drewN_self wc]; generalize hq_ : World.drewN wc _ = wc; have n0_ : Aside0 (Kd.R (Kd.int .u8) 5 wc w.heap.size (fun _ => True) v290 y289) := ⟨by rw [← hq_]; exact (by (with_reducible repeat (first | apply Kd.R_alloc | apply Kd.R_drewN | apply Kd.R_drew)); exact HO_7.out)⟩; have n1_ : Aside0 (Below w.heap.size w wc) := ⟨by rw [← hq_]; exact (by repeat (first | (with_reducible first | exact HB.out | apply below_alloc | apply pw_below_drewN | apply below_drew1) | exact HB.out))⟩; clear HO_7 HB hq_; have HO_7 := n0_; have HB := n1_; clear n0_ n1_)); have p20 : 0 ≤ (2 : Int) := (by omega); have q20 : (2 : Int) < ((y289.length : Int) : Int) := of_decide_eq_true (by first | (with_reducible assumption) | assumption); have qi20 : (2 < y289.length) = True := eq_true (by omega); obtain ⟨go20, co20, eo20, gb20, gl20, cl20, HG20⟩ := Kd.R_form HO_7.out (by omega); (first | cases eo20 | (injection eo20 with ea_ en_ ec_; (first | subst ea_ | (injection ea_ with ea_; subst ea_)); subst ec_; clear en_)); have GB20 := Aside0.mk gb20; have GG20 := Aside0.mk HG20; clear gb20 gl20 HG20; obtain ⟨hx20_0, hf20_0⟩ := Kd.R_celln 0 HO_7.out (2 : Int) p20 q20; (try rw [show ((2 : Int)).toNat = 2 from rfl] at hx20_0); (try simp only [Nat.reduceMul, Nat.zero_mul, Nat.zero_add, Nat.reduceAdd] at hx20_0); (try rw [show ((2 : Int)).toNat = 2 from rfl] at hf20_0); (try simp only [Nat.reduceMul, Nat.zero_mul, Nat.zero_add, Nat.reduceAdd] at hf20_0); replace p20 := eq_true p20; replace q20 := eq_true q20; obtain ⟨hy27_, hz27_⟩ := Kd.R_celln 0 HO_7.out (2 : Int) (by omega) (of_decide_eq_true (by first | (with_reducible assumption) | assumption)); (try simp only [Int.reduceToNat, Int.toNat_zero, Int.toNat_ofNat, Nat.reduceMul, Nat.zero_mul, Nat.zero_add] at hy27_ hz27_); (try rw [show ((2 : Int)).toNat = 2 from rfl] at hy27_); (try rw [show ((2 : Int)).toNat = 2 from rfl] at hz27_); have HP27 := Kd.R_putg HO_7.out (2 : Int) 0) | ((with_reducible refine gate_store (t := 5) (p := 39) rfl ?_); refine store_event (t := 5) (p := 39) (v := ?vo_w28) (w1 := (wc.setCell ⟨go20, (2 : Int).toNat, none⟩ (.int .u8 0))) ?hg ?ho ?hn ?hr ?_; (case ho => rfl); (case hg => rfl); (case hn => rfl); (case hr => first | (go_simp; done) | (go_simp; rfl)); intro w28 hw; have hg : wc.grownBy w28 (some go20) := (by rw [hw]; exact HP27.2); have hp_ : Kd.R (Kd.int .u8) 5 w28 w.heap.size (fun _ => True) (.slice (some ⟨go20, 0, none⟩) y289.length co20) y293 := (by rw [hw, Ny293.out]; exact HP27.1); clear HP27; have n0_ := Aside0.mk (hp_); have n1_ := Aside0.mk ((by rw [hw]; exact below_set (HB.out) GB20.out : Below w.heap.size w w28)); clear HO_7; clear HB; have HO_7 := n0_; have HB := n1_; clear n0_ n1_; clear hg hw hp_; have p22 : 0 ≤ (3 : Int) := (by omega); have q22 : (3 : Int) < ((y289.length : Int) : Int) := of_decide_eq_true (by first | (with_reducible assumption) | assumption); have qi22 : (3 < y289.length) = True := eq_true (by omega); obtain ⟨hx22_0, hf22_0⟩ := Kd.R_celln 0 HO_7.out (3 : Int) p22 q22; (try rw [show ((3 : Int)).toNat = 3 from rfl] at hx22_0); (try simp only [Nat.reduceMul, Nat.zero_mul, Nat.zero_add, Nat.reduceAdd] at hx22_0); (try rw [show ((3 : Int)).toNat = 3 from rfl] at hf22_0); (try simp only [Nat.reduceMul, Nat.zero_mul, Nat.zero_add, Nat.reduceAdd] at hf22_0); replace p22 := eq_true p22; replace q22 := eq_true q22; obtain ⟨hy29_, hz29_⟩ := Kd.R_celln 0 HO_7.out (3 : Int) (by omega) (of_decide_eq_true (by first | (with_reducible assumption) | assumption)); (try simp only [Int.reduceToNat, Int.toNat_zero, Int.toNat_ofNat, Nat.reduceMul, Nat.zero_mul, Nat.zero_add] at hy29_ hz29_); (try rw [show ((3 : Int)).toNat = 3 from rfl] at hy29_); (try rw [show ((3 : Int)).toNat = 3 from rfl] at hz29_); have HP29 := Kd.R_putg HO_7.out (3 : Int) 0) | ((with_reducible refine gate_store (t := 5) (p := 40) rfl ?_); refine store_event (t := 5) (p := 40) (v := ?vo_w30) (w1 := (w28.setCell ⟨go20, (3 : Int).toNat, none⟩ (.int .u8 0))) ?hg ?ho ?hn ?hr ?_; (case ho => rfl); (case hg => rfl); (case hn => rfl); (case hr => first | (go_simp; done) | (go_simp; rfl)); intro w30 hw; have hg : w28.grownBy w30 (some go20) := (by rw [hw]; exact HP29.2); have hp_ : Kd.R (Kd.int .u8) 5 w30 w.heap.size (fun _ => True) (.slice (some ⟨go20, 0, none⟩) y289.length co20) y294 := (by rw [hw, Ny294.out]; exact HP29.1); clear HP29; have n0_ := Aside0.mk (hp_); have n1_ := Aside0.mk ((by rw [hw]; exact below_set (HB.out) GB20.out : Below w.heap.size w w30)); clear HO_7; clear HB; have HO_7 := n0_; have HB := n1_; clear n0_ n1_; clear hg hw hp_; have p24 : 0 ≤ (4 : Int) := (by omega); have q24 : (4 : Int) < ((y289.length : Int) : Int) := of_decide_eq_true (by first | (with_reducible assumption) | assumption); have qi24 : (4 < y289.length) = True := eq_true (by omega); obtain ⟨hx24_0, hf24_0⟩ := Kd.R_celln 0 HO_7.out (4 : Int) p24 q24; (try rw [show ((4 : Int)).toNat = 4 from rfl] at hx24_0); (try simp only [Nat.reduceMul, Nat.zero_mul, Nat.zero_add, Nat.reduceAdd] at hx24_0); (try rw [show ((4 : Int)).toNat = 4 from rfl] at hf24_0); (try simp only [Nat.reduceMul, Nat.zero_mul, Nat.zero_add, Nat.reduceAdd] at hf24_0); replace p24 := eq_true p24; replace q24 := eq_true q24; obtain ⟨hy31_, hz31_⟩ := Kd.R_celln 0 HO_7.out (4 : Int) (by omega) (of_decide_eq_true (by first | (with_reducible assumption) | assumption)); (try simp only [Int.reduceToNat, Int.toNat_zero, Int.toNat_ofNat, Nat.reduceMul, Nat.zero_mul, Nat.zero_add] at hy31_ hz31_); (try rw [show ((4 : Int)).toNat = 4 from rfl] at hy31_); (try rw [show ((4 : Int)).toNat = 4 from rfl] at hz31_); have HP31 := Kd.R_putg HO_7.out (4 : Int) 0) | ((with_reducible refine gate_store (t := 5) (p := 41) rfl ?_); refine store_event (t := 5) (p := 41) (v := ?vo_w32) (w1 := (w30.setCell ⟨go20, (4 : Int).toNat, none⟩ (.int .u8 0))) ?hg ?ho ?hn ?hr ?_; (case ho => rfl); (case hg => rfl); (case hn => rfl); (case hr => first | (go_simp; done) | (go_simp; rfl)); intro w32 hw; have hg : w30.grownBy w32 (some go20) := (by rw [hw]; exact HP31.2); have hp_ : Kd.R (Kd.int .u8) 5 w32 w.heap.size (fun _ => True) (.slice (some ⟨go20, 0, none⟩) y289.length co20) y295 := (by rw [hw, Ny295.out]; exact HP31.1); clear HP31; have n0_ := Aside0.mk (hp_); have n1_ := Aside0.mk ((by rw [hw]; exact below_set (HB.out) GB20.out : Below w.heap.size w w32)); clear HO_7; clear HB; have HO_7 := n0_; have HB := n1_; clear n0_ n1_; clear hg hw hp_; have p26 : 0 ≤ (5 : Int) := (by omega); have q26 : (5 : Int) < ((y289.length : Int) : Int) := of_decide_eq_true (by first | (with_reducible assumption) | assumption); have qi26 : (5 < y289.length) = True := eq_true (by omega); obtain ⟨hx26_0, hf26_0⟩ := Kd.R_celln 0 HO_7.out (5 : Int) p26 q26; (try rw [show ((5 : Int)).toNat = 5 from rfl] at hx26_0); (try simp only [Nat.reduceMul, Nat.zero_mul, Nat.zero_add, Nat.reduceAdd] at hx26_0); (try rw [show ((5 : Int)).toNat = 5 from rfl] at hf26_0); (try simp only [Nat.reduceMul, Nat.zero_mul, Nat.zero_add, Nat.reduceAdd] at hf26_0); replace p26 := eq_true p26; replace q26 := eq_true q26; obtain ⟨hy33_, hz33_⟩ := Kd.R_celln 0 HO_7.out (5 : Int) (by omega) (of_decide_eq_true (by first | (with_reducible assumption) | assumption)); (try simp only [Int.reduceToNat, Int.toNat_zero, Int.toNat_ofNat, Nat.reduceMul, Nat.zero_mul, Nat.zero_add] at hy33_ hz33_); (try rw [show ((5 : Int)).toNat = 5 from rfl] at hy33_); (try rw [show ((5 : Int)).toNat = 5 from rfl] at hz33_); have HP33 := Kd.R_putg HO_7.out (5 : Int) ((t292) % 256)) | ((with_reducible refine gate_store (t := 5) (p := 42) rfl ?_); refine store_event (t := 5) (p := 42) (v := ?vo_w34) (w1 := (w32.setCell ⟨go20, (5 : Int).toNat, none⟩ (.int .u8 ((t292) % 256)))) ?hg ?ho ?hn ?hr ?_; (case ho => rfl); (case hg => rfl); (case hn => rfl); (case hr => first | (go_simp; done) | (go_simp; rfl)); intro w34 hw; have hg : w32.grownBy w34 (some go20) := (by rw [hw]; exact HP33.2); have hp_ : Kd.R (Kd.int .u8) 5 w34 w.heap.size (fun _ => True) (.slice (some ⟨go20, 0, none⟩) y289.length co20) y296 := (by rw [hw, Ny296.out]; exact HP33.1); clear HP33; have n0_ := Aside0.mk (hp_); have n1_ := Aside0.mk ((by rw [hw]; exact below_set (HB.out) GB20.out : Below w.heap.size w w34)); clear HO_7; clear HB; have HO_7 := n0_; have HB := n1_; clear n0_ n1_; clear hg hw hp_))
             go_meet
             case rel => exact ⟨_, (y296), H', ⟨by have := HJ3.out; have := HJ11.out; first | omega | exact Nat.le_refl _⟩, ⟨by (with_reducible repeat (first | apply Kd.R_alloc | apply Kd.R_drewN | apply Kd.R_drew)); exact HO_7.out⟩, ⟨by repeat (first | (with_reducible first | exact HB.out | apply below_alloc | apply pw_below_drewN | apply below_drew1) | exact HB.out)⟩⟩
            ·
             rw [if_neg c25] at H
             exact absurd H (by simp)
           ·
            rw [if_neg c23] at H
            exact absurd H (by simp)
          ·
           rw [if_neg c21] at H
           exact absurd H (by simp)
         ·
          rw [if_neg c19] at H
          exact absurd H (by simp)
        ·
         replace c17 := Bool.eq_false_iff.mpr c17
         subst c17
         have H1 : (busbarlaw8_AduCuts.j2 kj11 y289) = some r := by rw [if_neg (show ¬ (false = true) by decide)] at H; exact H
         clear H
         have H := H1
         clear H1
         have H' := Aside0.mk H
         clear H
         go_wp2
         go_meet
         case rel => exact ⟨_, (y289), H', ⟨by have := HJ3.out; have := HJ11.out; first | omega | exact Nat.le_refl _⟩, ⟨by (with_reducible repeat (first | apply Kd.R_alloc | apply Kd.R_drewN | apply Kd.R_drew)); exact HO_7.out⟩, ⟨by repeat (first | (with_reducible first | exact HB.out | apply below_alloc | apply pw_below_drewN | apply below_drew1) | exact HB.out)⟩⟩
       case rest =>
        clear HC16
        try clear c1
        try clear c2
        try clear p2
        try clear q2
        try clear hx2
        try clear qi2
        try clear c4
        try clear c5
        try clear c5b0
        try clear c5b1
        try clear c8
        try clear c11
        try clear c12
        try clear c14
        try clear c17
        try clear c19
        try clear c19b0
        try clear c19b1
        try clear p20
        try clear q20
        try clear hx20
        try clear qi20
        try clear hf20
        try clear c21
        try clear c21b0
        try clear c21b1
        try clear p22
        try clear q22
        try clear hx22
        try clear qi22
        try clear hf22
        try clear c23
        try clear c23b0
        try clear c23b1
        try clear p24
        try clear q24
        try clear hx24
        try clear qi24
        try clear hf24
        try clear c25
        try clear c25b0
        try clear c25b1
        try clear p26
        try clear q26
        try clear hx26
        try clear qi26
        try clear hf26
        try clear hx20_0
        try clear hx22_0
        try clear hx24_0
        try clear hx26_0
        try clear p2
        try clear p20
        try clear p22
        try clear p24
        try clear p26
        try clear q20
        try clear q22
        try clear q24
        try clear q26
        obtain ⟨kq, x7_15, HA, HJ15, HO_7, HB⟩ := hcut
        cases kq with
        | zero => exact absurd HA.out (by simp [busbarlaw8_AduCuts.j2])
        | succ kj15 =>
         have H := HA.out
         clear HA
         simp only [busbarlaw8_AduCuts.j2] at H
         replace H := Option.bind_eq_some_iff.mp H
         obtain ⟨t297, A350, H⟩ := H
         replace H : ((adu_Cut.f kj15 t297).bind fun bt300 => ((busbarref5_Cut.f kj15 x7_15).bind fun bt308 => (if bt300.2.2.2.2 = bt308.2.2.2.2 then (if bt300.2.2.2.1 = bt308.2.2.2.1 then ((busbarlaw8_same.f bt300.1 bt300.2.1 bt300.2.2.1 bt308.1 bt308.2.1 bt308.2.2.1).bind fun t316 => (busbarlaw8_AduCuts.j3 kj15 x7_15 t297 (!t316) bt300.1 bt300.2.1 bt300.2.2.1)) else (busbarlaw8_AduCuts.j3 kj15 x7_15 t297 true bt300.1 bt300.2.1 bt300.2.2.1)) else (busbarlaw8_AduCuts.j3 kj15 x7_15 t297 true bt300.1 bt300.2.1 bt300.2.2.1)))) = some r := H
         have A35 := Aside0.mk A350
         clear A350
         replace H := Option.bind_eq_some_iff.mp H
         obtain ⟨⟨t300, t301, t302, t305, t306⟩, A360, H⟩ := H
         replace H : ((busbarref5_Cut.f kj15 x7_15).bind fun bt308 => (if t306 = bt308.2.2.2.2 then (if t305 = bt308.2.2.2.1 then ((busbarlaw8_same.f t300 t301 t302 bt308.1 bt308.2.1 bt308.2.2.1).bind fun t316 => (busbarlaw8_AduCuts.j3 kj15 x7_15 t297 (!t316) t300 t301 t302)) else (busbarlaw8_AduCuts.j3 kj15 x7_15 t297 true t300 t301 t302)) else (busbarlaw8_AduCuts.j3 kj15 x7_15 t297 true t300 t301 t302))) = some r := H
         have A36 := Aside0.mk A360
         clear A360
         replace H := Option.bind_eq_some_iff.mp H
         obtain ⟨⟨t308, t309, t310, t313, t314⟩, A370, H⟩ := H
         replace H : (if t306 = t314 then (if t305 = t313 then ((busbarlaw8_same.f t300 t301 t302 t308 t309 t310).bind fun t316 => (busbarlaw8_AduCuts.j3 kj15 x7_15 t297 (!t316) t300 t301 t302)) else (busbarlaw8_AduCuts.j3 kj15 x7_15 t297 true t300 t301 t302)) else (busbarlaw8_AduCuts.j3 kj15 x7_15 t297 true t300 t301 t302)) = some r := H
         have A37 := Aside0.mk A370
         clear A370
         have HC38 := Aside0.mk H
         clear H
         obtain ⟨Ao39, co39, eo39⟩ := Kd.R_slice HO_7.out
         subst eo39
         go_upto_region 9 with (first | ((with_reducible refine gate_callee (f := 13) rfl ?_); refine goesL_ (some 44) rfl rfl Try.func13 (by kernel_rfl) rfl #[.slice Ao39 x7_15.length co39] rfl (by (try simp only [List.map_toArray, List.map_cons, List.map_nil]); first | done | rfl | (simp only [List.length_drop, List.length_take]; rfl)) ?_; (with_reducible refine (busbarlaw0_LentBytes.calls kj15 _ _ x7_15 t297 _ ?side1 ?side2 A35.out).mono ?_); (case side1 => repeat (first | exact (Kd.R_reads' HO_7.out).2.2 | (with_reducible refine Kd.C_alloc ?_ _) | (with_reducible refine Kd.C_drewN ?_ _) | (with_reducible refine Kd.C_drew ?_))); (case side2 => exact (Kd.R_reads' HO_7.out).2.1); rintro e w40 ⟨v298, rfl, ho0, hb⟩; refine ⟨_, rfl, ?_⟩; have n0_ := Aside0.mk (Kd.R_elder' (by (with_reducible repeat (first | apply Kd.R_alloc | apply Kd.R_drewN | apply Kd.R_drew)); exact HO_7.out) (Kd.L_base ho0) hb); have n1_ := Aside0.mk (Kd.L_lower (Kd.L_new' ho0 (Kd.R_lt (by (with_reducible repeat (first | apply Kd.R_alloc | apply Kd.R_drewN | apply Kd.R_drew)); exact HO_7.out))) (below_size (by repeat (first | (with_reducible first | exact HB.out | apply below_alloc | apply pw_below_drewN | apply below_drew1) | exact HB.out)))); have n2_ := Aside0.mk (below_step (by repeat (first | (with_reducible first | exact HB.out | apply below_alloc | apply pw_below_drewN | apply below_drew1) | exact HB.out)) hb); clear HO_7; clear HB; have HO_7 := n0_; have HO299 := n1_; have HB := n2_; clear n0_ n1_ n2_; (try clear hb); (try clear hb2); (try clear hk); (try clear hi); (try clear ho0); obtain ⟨Ao41, co41, eo41, _⟩ := Kd.L_slice HO299.out; subst eo41) | ((with_reducible refine gate_callee (f := 17) rfl ?_); refine goesL_ (some 47) rfl rfl Try.func17 (by kernel_rfl) rfl #[.slice Ao41 t297.length co41] rfl (by (try simp only [List.map_toArray, List.map_cons, List.map_nil]); first | done | rfl | (simp only [List.length_drop, List.length_take]; rfl)) ?_; (with_reducible refine (adu_Cut.calls kj15 _ _ t297 t300 t301 t302 t305 t306 _ ?side1 ?side2 A36.out).mono ?_); (case side1 => repeat (first | exact (Kd.L_reads' HO299.out).2.2 | (with_reducible refine Kd.C_alloc ?_ _) | (with_reducible refine Kd.C_drewN ?_ _) | (with_reducible refine Kd.C_drew ?_))); (case side2 => exact (Kd.L_reads' HO299.out).2.1); rintro e w42 ⟨v303, rfl, ho0, hb⟩; refine ⟨_, rfl, ?_⟩; have n0_ := Aside0.mk (Kd.R_elder' (by (with_reducible repeat (first | apply Kd.R_alloc | apply Kd.R_drewN | apply Kd.R_drew)); exact HO_7.out) (Kd.R_base ho0) hb); have n1_ := Aside0.mk (Kd.L_elder' (by (with_reducible repeat (first | apply Kd.L_alloc | apply Kd.L_drewN | apply Kd.L_drew)); exact HO299.out) (Kd.R_base ho0) hb); have n2_ := Aside0.mk (Kd.R_lower (Kd.R_new' (Kd.R_new' ho0 (Kd.R_lt (by (with_reducible repeat (first | apply Kd.R_alloc | apply Kd.R_drewN | apply Kd.R_drew)); exact HO_7.out))) (Kd.L_lt (by (with_reducible repeat (first | apply Kd.L_alloc | apply Kd.L_drewN | apply Kd.L_drew)); exact HO299.out))) (below_size (by repeat (first | (with_reducible first | exact HB.out | apply below_alloc | apply pw_below_drewN | apply below_drew1) | exact HB.out)))); have n3_ := Aside0.mk (below_step (by repeat (first | (with_reducible first | exact HB.out | apply below_alloc | apply pw_below_drewN | apply below_drew1) | exact HB.out)) hb); clear HO_7; clear HO299; clear HB; have HO_7 := n0_; have HO299 := n1_; have HO304 := n2_; have HB := n3_; clear n0_ n1_ n2_ n3_; (try clear hb); (try clear hb2); (try clear hk); (try clear hi); (try clear ho0)) | ((with_reducible refine gate_dst (N := 9) rfl ?_); (try (refine gate_guard (by rfl) ?_; dsimp only)); refine box_event ?hg (N := 9) ?hd (cs := #[.int .i64 0, .int .i64 0, .slice none 0 0]) (t := 30) ?hr ?_; (case hd => rfl); (case hg => rfl); (case hr => first | (go_simp; done) | (go_simp; rfl)); intro gb307 hg w43 hbox hb; have n0_ := Aside0.mk (Kd.R_below (by (with_reducible repeat (first | apply Kd.R_alloc | apply Kd.R_drewN | apply Kd.R_drew)); exact HO_7.out) hb); have n1_ := Aside0.mk (Kd.L_below (by (with_reducible repeat (first | apply Kd.L_alloc | apply Kd.L_drewN | apply Kd.L_drew)); exact HO299.out) hb); have n2_ := Aside0.mk (Kd.R_below (by (with_reducible repeat (first | apply Kd.R_alloc | apply Kd.R_drewN | apply Kd.R_drew)); exact HO304.out) hb); have n3_ := Aside0.mk (below_step (by repeat (first | (with_reducible first | exact HB.out | apply below_alloc | apply pw_below_drewN | apply below_drew1) | exact HB.out)) hb); have n4_ := Aside0.mk (hbox); have n5_ := Aside0.mk ((by rw [hg]; exact (below_size (by repeat (first | (with_reducible first | exact HB.out | apply below_alloc | apply pw_below_drewN | apply below_drew1) | exact HB.out))) : w.heap.size ≤ gb307)); have n6_ := Aside0.mk ((by rw [hg]; exact (below_size (by repeat (first | (with_reducible first | exact HB.out | apply below_alloc | apply pw_below_drewN | apply below_drew1) | exact HB.out))) : w.heap.size ≤ gb307)); clear HO_7; clear HO299; clear HO304; clear HB; have HO_7 := n0_; have HO299 := n1_; have HO304 := n2_; have HB := n3_; have BK307 := n4_; have GW307 := n5_; have GE307 := n6_; clear n0_ n1_ n2_ n3_ n4_ n5_ n6_; clear hb hbox hg; have hcz44_0 : w43.cell? ⟨gb307, 0, none⟩ = some (.int .i64 0) := (blk_cell BK307.out 0).trans rfl; have hcz44_1 : w43.cell? ⟨gb307, 1, none⟩ = some (.int .i64 0) := (blk_cell BK307.out 1).trans rfl; have hcz44_2 : w43.cell? ⟨gb307, 2, none⟩ = some (.slice none 0 0) := (blk_cell BK307.out 2).trans rfl; have hfz44_0 := blk_frozen BK307.out 0; have hfz44_1 := blk_frozen BK307.out 1; have hfz44_2 := blk_frozen BK307.out 2; obtain ⟨Ao45, co45, eo45⟩ := Kd.R_slice HO304.out; subst eo45) | ((with_reducible refine gate_callee (f := 18) rfl ?_); refine goesL_ (some 53) rfl rfl Try.func18 (by kernel_rfl) rfl #[.slice Ao39 x7_15.length co39] rfl (by (try simp only [List.map_toArray, List.map_cons, List.map_nil]); first | done | rfl | (simp only [List.length_drop, List.length_take]; rfl)) ?_; (with_reducible refine (busbarref5_Cut.calls kj15 _ _ x7_15 t308 t309 t310 t313 t314 _ ?side1 ?side2 A37.out).mono ?_); (case side1 => refine (Kd.R_reads' (e := 5) (base := w.heap.size) (ok := fun k_ => ((True ∧ some k_ ≠ (.slice Ao41 t297.length co41 : Value).ownBlock) ∧ some k_ ≠ (.slice Ao45 t302.length co45 : Value).ownBlock)) (n := x7_15.length) (c := co39) ?_).2.2; exact (by (with_reducible repeat (first | apply Kd.R_alloc | apply Kd.R_drewN | apply Kd.R_drew)); exact (Kd.R_mono (Kd.R_far (p := ⟨gb307, 2, none⟩) (Kd.R_far (p := ⟨gb307, 1, none⟩) (Kd.R_far (p := ⟨gb307, 0, none⟩) (Kd.R_types HO_7.out BK307.out (by decide)) (fun _ hk => hk.2) (.int .i64 t300)) (fun _ hk => hk.2) (.int .i64 t301)) (fun _ hk => hk.2) (.slice Ao45 t302.length co45)) (fun _ h_ => h_.1)))); (case side2 => exact (Kd.R_reads' HO_7.out).2.1); rintro e w46 ⟨v311, rfl, ho0, hb⟩; refine ⟨_, rfl, ?_⟩; have n0_ := Aside0.mk (Kd.R_elder' (by (with_reducible repeat (first | apply Kd.R_alloc | apply Kd.R_drewN | apply Kd.R_drew)); exact (Kd.R_mono (Kd.R_far (p := ⟨gb307, 2, none⟩) (Kd.R_far (p := ⟨gb307, 1, none⟩) (Kd.R_far (p := ⟨gb307, 0, none⟩) (Kd.R_types HO_7.out BK307.out (by decide)) (fun _ hk => hk.2) (.int .i64 t300)) (fun _ hk => hk.2) (.int .i64 t301)) (fun _ hk => hk.2) (.slice Ao45 t302.length co45)) (fun _ h_ => h_.1))) (Kd.R_base ho0) hb); have n1_ := Aside0.mk (Kd.L_elder' (by (with_reducible repeat (first | apply Kd.L_alloc | apply Kd.L_drewN | apply Kd.L_drew)); exact (Kd.L_mono (Kd.L_far (p := ⟨gb307, 2, none⟩) (Kd.L_far (p := ⟨gb307, 1, none⟩) (Kd.L_far (p := ⟨gb307, 0, none⟩) (Kd.L_types HO299.out BK307.out (by decide)) (fun _ hk => hk.2) (.int .i64 t300)) (fun _ hk => hk.2) (.int .i64 t301)) (fun _ hk => hk.2) (.slice Ao45 t302.length co45)) (fun _ h_ => h_.1))) (Kd.R_base ho0) hb); have n2_ := Aside0.mk (Kd.R_elder' (by (with_reducible repeat (first | apply Kd.R_alloc | apply Kd.R_drewN | apply Kd.R_drew)); exact (Kd.R_mono (Kd.R_far (p := ⟨gb307, 2, none⟩) (Kd.R_far (p := ⟨gb307, 1, none⟩) (Kd.R_far (p := ⟨gb307, 0, none⟩) (Kd.R_types HO304.out BK307.out (by decide)) (fun _ hk => hk.2) (.int .i64 t300)) (fun _ hk => hk.2) (.int .i64 t301)) (fun _ hk => hk.2) (.slice Ao45 t302.length co45)) (fun _ h_ => h_.1))) (Kd.R_base ho0) hb); have n3_ := Aside0.mk (Kd.R_lower (Kd.R_new' (Kd.R_new' (Kd.R_new' ho0 (Kd.R_lt (by (with_reducible repeat (first | apply Kd.R_alloc | apply Kd.R_drewN | apply Kd.R_drew)); exact (Kd.R_mono (Kd.R_far (p := ⟨gb307, 2, none⟩) (Kd.R_far (p := ⟨gb307, 1, none⟩) (Kd.R_far (p := ⟨gb307, 0, none⟩) (Kd.R_types HO_7.out BK307.out (by decide)) (fun _ hk => hk.2) (.int .i64 t300)) (fun _ hk => hk.2) (.int .i64 t301)) (fun _ hk => hk.2) (.slice Ao45 t302.length co45)) (fun _ h_ => h_.1))))) (Kd.L_lt (by (with_reducible repeat (first | apply Kd.L_alloc | apply Kd.L_drewN | apply Kd.L_drew)); exact (Kd.L_mono (Kd.L_far (p := ⟨gb307, 2, none⟩) (Kd.L_far (p := ⟨gb307, 1, none⟩) (Kd.L_far (p := ⟨gb307, 0, none⟩) (Kd.L_types HO299.out BK307.out (by decide)) (fun _ hk => hk.2) (.int .i64 t300)) (fun _ hk => hk.2) (.int .i64 t301)) (fun _ hk => hk.2) (.slice Ao45 t302.length co45)) (fun _ h_ => h_.1))))) (Kd.R_lt (by (with_reducible repeat (first | apply Kd.R_alloc | apply Kd.R_drewN | apply Kd.R_drew)); exact (Kd.R_mono (Kd.R_far (p := ⟨gb307, 2, none⟩) (Kd.R_far (p := ⟨gb307, 1, none⟩) (Kd.R_far (p := ⟨gb307, 0, none⟩) (Kd.R_types HO304.out BK307.out (by decide)) (fun _ hk => hk.2) (.int .i64 t300)) (fun _ hk => hk.2) (.int .i64 t301)) (fun _ hk => hk.2) (.slice Ao45 t302.length co45)) (fun _ h_ => h_.1))))) (below_size (by repeat (first | (with_reducible first | exact HB.out | apply below_alloc | apply pw_below_drewN | apply below_drew1 | refine below_set ?_ GE307.out) | exact HB.out)))); have n4_ := Aside0.mk (blk_below (g := gb307) (o := .cells #[.int .i64 t300, .int .i64 t301, .slice Ao45 t302.length co45] 30 (0, 0)) (by (with_reducible repeat (first | refine blk_drewN ?_ _ | refine blk_drew ?_ | refine blk_alloc ?_ _)); refine blk_put (cs := #[.int .i64 t300, .int .i64 t301, .slice none 0 0]) ?_ 2 _ rfl; (with_reducible repeat (first | refine blk_drewN ?_ _ | refine blk_drew ?_ | refine blk_alloc ?_ _)); refine blk_put (cs := #[.int .i64 t300, .int .i64 0, .slice none 0 0]) ?_ 1 _ rfl; (with_reducible repeat (first | refine blk_drewN ?_ _ | refine blk_drew ?_ | refine blk_alloc ?_ _)); refine blk_put (cs := #[.int .i64 0, .int .i64 0, .slice none 0 0]) ?_ 0 _ rfl; (with_reducible repeat (first | refine blk_drewN ?_ _ | refine blk_drew ?_ | refine blk_alloc ?_ _)); exact BK307.out) hb); have n5_ := Aside0.mk (below_step (by repeat (first | (with_reducible first | exact HB.out | apply below_alloc | apply pw_below_drewN | apply below_drew1 | refine below_set ?_ GE307.out) | exact HB.out)) hb); clear HO_7; clear HO299; clear HO304; clear BK307; clear HB; have HO_7 := n0_; have HO299 := n1_; have HO304 := n2_; have HO312 := n3_; have BK307 := n4_; have HB := n5_; clear n0_ n1_ n2_ n3_ n4_ n5_; (try clear hb); (try clear hb2); (try clear hk); (try clear hi); (try clear ho0)) | ((with_reducible refine gate_dst (N := 12) rfl ?_); (try (refine gate_guard (by rfl) ?_; dsimp only)); refine box_event ?hg (N := 12) ?hd (cs := #[.int .i64 0, .int .i64 0, .slice none 0 0]) (t := 32) ?hr ?_; (case hd => rfl); (case hg => rfl); (case hr => first | (go_simp; done) | (go_simp; rfl)); intro gb315 hg w47 hbox hb; have n0_ := Aside0.mk (Kd.R_below (by (with_reducible repeat (first | apply Kd.R_alloc | apply Kd.R_drewN | apply Kd.R_drew)); exact HO_7.out) hb); have n1_ := Aside0.mk (Kd.L_below (by (with_reducible repeat (first | apply Kd.L_alloc | apply Kd.L_drewN | apply Kd.L_drew)); exact HO299.out) hb); have n2_ := Aside0.mk (Kd.R_below (by (with_reducible repeat (first | apply Kd.R_alloc | apply Kd.R_drewN | apply Kd.R_drew)); exact HO304.out) hb); have n3_ := Aside0.mk (Kd.R_below (by (with_reducible repeat (first | apply Kd.R_alloc | apply Kd.R_drewN | apply Kd.R_drew)); exact HO312.out) hb); have n4_ := Aside0.mk (blk_below (g := gb307) (o := .cells #[.int .i64 t300, .int .i64 t301, .slice Ao45 t302.length co45] 30 (0, 0)) (by (with_reducible repeat (first | refine blk_drewN ?_ _ | refine blk_drew ?_ | refine blk_alloc ?_ _)); exact BK307.out) hb); have n5_ := Aside0.mk (below_step (by repeat (first | (with_reducible first | exact HB.out | apply below_alloc | apply pw_below_drewN | apply below_drew1 | refine below_set ?_ GE307.out) | exact HB.out)) hb); have n6_ := Aside0.mk (hbox); have n7_ := Aside0.mk ((by rw [hg]; exact (below_size (by repeat (first | (with_reducible first | exact HB.out | apply below_alloc | apply pw_below_drewN | apply below_drew1 | refine below_set ?_ GE307.out) | exact HB.out))) : w.heap.size ≤ gb315)); have n8_ := Aside0.mk ((by rw [hg]; exact (below_size (by repeat (first | (with_reducible first | exact HB.out | apply below_alloc | apply pw_below_drewN | apply below_drew1 | refine below_set ?_ GE307.out) | exact HB.out))) : w.heap.size ≤ gb315)); have n9_ := Aside0.mk ((by rw [hg]; exact Nat.ne_of_lt (blk_lt (g := gb307) (o := .cells #[.int .i64 t300, .int .i64 t301, .slice Ao45 t302.length co45] 30 (0, 0)) (by (with_reducible repeat (first | refine blk_drewN ?_ _ | refine blk_drew ?_ | refine blk_alloc ?_ _)); exact BK307.out)) : gb307 ≠ gb315)); have n10_ := Aside0.mk ((by rw [hg]; exact Nat.ne_of_gt (blk_lt (g := gb307) (o := .cells #[.int .i64 t300, .int .i64 t301, .slice Ao45 t302.length co45] 30 (0, 0)) (by (with_reducible repeat (first | refine blk_drewN ?_ _ | refine blk_drew ?_ | refine blk_alloc ?_ _)); exact BK307.out)) : gb315 ≠ gb307)); clear HO_7; clear HO299; clear HO304; clear HO312; clear BK307; clear HB; have HO_7 := n0_; have HO299 := n1_; have HO304 := n2_; have HO312 := n3_; have BK307 := n4_; have HB := n5_; have BK315 := n6_; have GW315 := n7_; have GE315 := n8_; have NB307_315 := n9_; have NB315_307 := n10_; clear n0_ n1_ n2_ n3_ n4_ n5_ n6_ n7_ n8_ n9_ n10_; clear hb hbox hg; have hnb48 := NB315_307.out; have hnc48 := NB307_315.out; have hcz49_0 : w47.cell? ⟨gb315, 0, none⟩ = some (.int .i64 0) := (blk_cell BK315.out 0).trans rfl; have hcz49_1 : w47.cell? ⟨gb315, 1, none⟩ = some (.int .i64 0) := (blk_cell BK315.out 1).trans rfl; have hcz49_2 : w47.cell? ⟨gb315, 2, none⟩ = some (.slice none 0 0) := (blk_cell BK315.out 2).trans rfl; have hfz49_0 := blk_frozen BK315.out 0; have hfz49_1 := blk_frozen BK315.out 1; have hfz49_2 := blk_frozen BK315.out 2; obtain ⟨Ao50, co50, eo50⟩ := Kd.R_slice HO312.out; subst eo50))
         (try simp only [Act.put, List.setIfInBounds_toArray, List.set_cons_zero, List.set_cons_succ])
         go_cut [70] (fun v70 wc => ∃ (kq : Nat) (x70_37 : Bool), v70 = .bool x70_37 ∧ Aside0 (busbarlaw8_AduCuts.j3 kq x7_15 t297 x70_37 t300 t301 t302 = some r) ∧ Aside0 (kq ≤ kj15) ∧ Aside0 (Kd.R (Kd.int .u8) 5 wc w.heap.size (fun k_ => some k_ ≠ ((.slice Ao41 t297.length co41) : Value).ownBlock ∧ some k_ ≠ ((.slice Ao45 t302.length co45) : Value).ownBlock ∧ some k_ ≠ ((.slice Ao50 t310.length co50) : Value).ownBlock) (.slice Ao39 x7_15.length co39) x7_15) ∧ Aside0 (Kd.L (Kd.int .u8) 5 wc w.heap.size (fun k_ => some k_ ≠ ((.slice Ao39 x7_15.length co39) : Value).ownBlock ∧ some k_ ≠ ((.slice Ao45 t302.length co45) : Value).ownBlock ∧ some k_ ≠ ((.slice Ao50 t310.length co50) : Value).ownBlock) (.slice Ao41 t297.length co41) t297) ∧ Aside0 (Kd.R (Kd.int .u8) 5 wc w.heap.size (fun k_ => some k_ ≠ ((.slice Ao39 x7_15.length co39) : Value).ownBlock ∧ some k_ ≠ ((.slice Ao41 t297.length co41) : Value).ownBlock ∧ some k_ ≠ ((.slice Ao50 t310.length co50) : Value).ownBlock) (.slice Ao45 t302.length co45) t302) ∧ Aside0 (Kd.R (Kd.int .u8) 5 wc w.heap.size (fun k_ => some k_ ≠ ((.slice Ao39 x7_15.length co39) : Value).ownBlock ∧ some k_ ≠ ((.slice Ao41 t297.length co41) : Value).ownBlock ∧ some k_ ≠ ((.slice Ao45 t302.length co45) : Value).ownBlock) (.slice Ao50 t310.length co50) t310) ∧ Aside0 (wc.heap[gb307]? = some (.cells #[.int .i64 t300, .int .i64 t301, (.slice Ao45 t302.length co45)] 30 (0, 0))) ∧ Aside0 (wc.heap[gb315]? = some (.cells #[.int .i64 t308, .int .i64 t309, (.slice Ao50 t310.length co50)] 32 (0, 0))) ∧ Aside0 (Below w.heap.size w wc))
         case first =>
          have H := HC38.out
          clear HC38
          by_cases c51 : t306 = t314
          ·
           rw [if_pos c51] at H
           have c51b0 : (t306 == t314) = true := beq_iff_eq.mpr c51
           have c51b1 : (t306 != t314) = false := bne_eq_false_iff_eq.mpr c51
           clear c51
           (first | rw [c51b0] | (simp only [i64_w, i32_w]; rw [c51b0]) | skip)
           by_cases c52 : t305 = t313
           ·
            rw [if_pos c52] at H
            have c52b0 : (t305 == t313) = true := beq_iff_eq.mpr c52
            have c52b1 : (t305 != t313) = false := bne_eq_false_iff_eq.mpr c52
            clear c52
            replace H := Option.bind_eq_some_iff.mp H
            obtain ⟨t316, A530, H⟩ := H
            replace H : (busbarlaw8_AduCuts.j3 kj15 x7_15 t297 (!t316) t300 t301 t302) = some r := H
            have A53 := Aside0.mk A530
            clear A530
            have H' := Aside0.mk H
            clear H
            have hnb54 := NB307_315.out
            have hnc54 := NB315_307.out
            have hcz55_0 : w47.cell? ⟨gb307, 0, none⟩ = some (.int .i64 t300) := (blk_cell BK307.out 0).trans rfl
            have hcz55_1 : w47.cell? ⟨gb307, 1, none⟩ = some (.int .i64 t301) := (blk_cell BK307.out 1).trans rfl
            have hcz55_2 : w47.cell? ⟨gb307, 2, none⟩ = some (.slice Ao45 t302.length co45) := (blk_cell BK307.out 2).trans rfl
            have hfz55_0 := blk_frozen BK307.out 0
            have hfz55_1 := blk_frozen BK307.out 1
            have hfz55_2 := blk_frozen BK307.out 2
            have hcz56_0 : w47.cell? ⟨gb315, 0, none⟩ = some (.int .i64 0) := (blk_cell BK315.out 0).trans rfl
            have hcz56_1 : w47.cell? ⟨gb315, 1, none⟩ = some (.int .i64 0) := (blk_cell BK315.out 1).trans rfl
            have hcz56_2 : w47.cell? ⟨gb315, 2, none⟩ = some (.slice none 0 0) := (blk_cell BK315.out 2).trans rfl
            have hfz56_0 := blk_frozen BK315.out 0
            have hfz56_1 := blk_frozen BK315.out 1
            have hfz56_2 := blk_frozen BK315.out 2
            go_wp2_with (first | (go_at_call 19; (with_reducible refine (busbarlaw8_same.calls t300 t301 _ _ t302 t308 t309 _ _ t310 t316 _ ?side1 ?side2 ?side3 ?side4 A53.out).mono ?_); (case side1 => refine (Kd.R_reads' (e := 5) (base := w.heap.size) (ok := fun k_ => (((True ∧ some k_ ≠ (.slice Ao39 x7_15.length co39 : Value).ownBlock) ∧ some k_ ≠ (.slice Ao41 t297.length co41 : Value).ownBlock) ∧ some k_ ≠ (.slice Ao50 t310.length co50 : Value).ownBlock)) (n := t302.length) (c := co45) ?_).2.2; exact (by (with_reducible repeat (first | apply Kd.R_alloc | apply Kd.R_drewN | apply Kd.R_drew)); exact (Kd.R_mono (Kd.R_far (p := ⟨gb315, 2, none⟩) (Kd.R_far (p := ⟨gb315, 1, none⟩) (Kd.R_far (p := ⟨gb315, 0, none⟩) (Kd.R_types HO304.out BK315.out (by decide)) (fun _ hk => hk.2) (.int .i64 t308)) (fun _ hk => hk.2) (.int .i64 t309)) (fun _ hk => hk.2) (.slice Ao50 t310.length co50)) (fun _ h_ => h_.1)))); (case side2 => exact (Kd.R_reads' HO304.out).2.1); (case side3 => refine (Kd.R_reads' (e := 5) (base := w.heap.size) (ok := fun k_ => (((True ∧ some k_ ≠ (.slice Ao39 x7_15.length co39 : Value).ownBlock) ∧ some k_ ≠ (.slice Ao41 t297.length co41 : Value).ownBlock) ∧ some k_ ≠ (.slice Ao45 t302.length co45 : Value).ownBlock)) (n := t310.length) (c := co50) ?_).2.2; exact (by (with_reducible repeat (first | apply Kd.R_alloc | apply Kd.R_drewN | apply Kd.R_drew)); exact (Kd.R_mono (Kd.R_far (p := ⟨gb315, 2, none⟩) (Kd.R_far (p := ⟨gb315, 1, none⟩) (Kd.R_far (p := ⟨gb315, 0, none⟩) (Kd.R_types HO312.out BK315.out (by decide)) (fun _ hk => hk.2) (.int .i64 t308)) (fun _ hk => hk.2) (.int .i64 t309)) (fun _ hk => hk.2) (.slice Ao50 t310.length co50)) (fun _ h_ => h_.1)))); (case side4 => exact (Kd.R_reads' HO312.out).2.1); rintro e w57 ⟨rfl, hb⟩; have n0_ := Aside0.mk (Kd.R_below (by (with_reducible repeat (first | apply Kd.R_alloc | apply Kd.R_drewN | apply Kd.R_drew)); exact (Kd.R_mono (Kd.R_far (p := ⟨gb315, 2, none⟩) (Kd.R_far (p := ⟨gb315, 1, none⟩) (Kd.R_far (p := ⟨gb315, 0, none⟩) (Kd.R_types HO_7.out BK315.out (by decide)) (fun _ hk => hk.2) (.int .i64 t308)) (fun _ hk => hk.2) (.int .i64 t309)) (fun _ hk => hk.2) (.slice Ao50 t310.length co50)) (fun _ h_ => h_.1))) hb); have n1_ := Aside0.mk (Kd.L_below (by (with_reducible repeat (first | apply Kd.L_alloc | apply Kd.L_drewN | apply Kd.L_drew)); exact (Kd.L_mono (Kd.L_far (p := ⟨gb315, 2, none⟩) (Kd.L_far (p := ⟨gb315, 1, none⟩) (Kd.L_far (p := ⟨gb315, 0, none⟩) (Kd.L_types HO299.out BK315.out (by decide)) (fun _ hk => hk.2) (.int .i64 t308)) (fun _ hk => hk.2) (.int .i64 t309)) (fun _ hk => hk.2) (.slice Ao50 t310.length co50)) (fun _ h_ => h_.1))) hb); have n2_ := Aside0.mk (Kd.R_below (by (with_reducible repeat (first | apply Kd.R_alloc | apply Kd.R_drewN | apply Kd.R_drew)); exact (Kd.R_mono (Kd.R_far (p := ⟨gb315, 2, none⟩) (Kd.R_far (p := ⟨gb315, 1, none⟩) (Kd.R_far (p := ⟨gb315, 0, none⟩) (Kd.R_types HO304.out BK315.out (by decide)) (fun _ hk => hk.2) (.int .i64 t308)) (fun _ hk => hk.2) (.int .i64 t309)) (fun _ hk => hk.2) (.slice Ao50 t310.length co50)) (fun _ h_ => h_.1))) hb); have n3_ := Aside0.mk (Kd.R_below (by (with_reducible repeat (first | apply Kd.R_alloc | apply Kd.R_drewN | apply Kd.R_drew)); exact (Kd.R_mono (Kd.R_far (p := ⟨gb315, 2, none⟩) (Kd.R_far (p := ⟨gb315, 1, none⟩) (Kd.R_far (p := ⟨gb315, 0, none⟩) (Kd.R_types HO312.out BK315.out (by decide)) (fun _ hk => hk.2) (.int .i64 t308)) (fun _ hk => hk.2) (.int .i64 t309)) (fun _ hk => hk.2) (.slice Ao50 t310.length co50)) (fun _ h_ => h_.1))) hb); have n4_ := Aside0.mk (blk_below (g := gb307) (o := .cells #[.int .i64 t300, .int .i64 t301, .slice Ao45 t302.length co45] 30 (0, 0)) (by (with_reducible repeat (first | refine blk_drewN ?_ _ | refine blk_drew ?_ | refine blk_alloc ?_ _)); refine blk_far ?_ NB307_315.out _; (with_reducible repeat (first | refine blk_drewN ?_ _ | refine blk_drew ?_ | refine blk_alloc ?_ _)); refine blk_far ?_ NB307_315.out _; (with_reducible repeat (first | refine blk_drewN ?_ _ | refine blk_drew ?_ | refine blk_alloc ?_ _)); refine blk_far ?_ NB307_315.out _; (with_reducible repeat (first | refine blk_drewN ?_ _ | refine blk_drew ?_ | refine blk_alloc ?_ _)); exact BK307.out) hb); have n5_ := Aside0.mk (blk_below (g := gb315) (o := .cells #[.int .i64 t308, .int .i64 t309, .slice Ao50 t310.length co50] 32 (0, 0)) (by (with_reducible repeat (first | refine blk_drewN ?_ _ | refine blk_drew ?_ | refine blk_alloc ?_ _)); refine blk_put (cs := #[.int .i64 t308, .int .i64 t309, .slice none 0 0]) ?_ 2 _ rfl; (with_reducible repeat (first | refine blk_drewN ?_ _ | refine blk_drew ?_ | refine blk_alloc ?_ _)); refine blk_put (cs := #[.int .i64 t308, .int .i64 0, .slice none 0 0]) ?_ 1 _ rfl; (with_reducible repeat (first | refine blk_drewN ?_ _ | refine blk_drew ?_ | refine blk_alloc ?_ _)); refine blk_put (cs := #[.int .i64 0, .int .i64 0, .slice none 0 0]) ?_ 0 _ rfl; (with_reducible repeat (first | refine blk_drewN ?_ _ | refine blk_drew ?_ | refine blk_alloc ?_ _)); exact BK315.out) hb); have n6_ := Aside0.mk (below_step (by repeat (first | (with_reducible first | exact HB.out | apply below_alloc | apply pw_below_drewN | apply below_drew1 | refine below_set ?_ GE307.out | refine below_set ?_ GE315.out) | exact HB.out)) hb); clear HO_7; clear HO299; clear HO304; clear HO312; clear BK307; clear BK315; clear HB; have HO_7 := n0_; have HO299 := n1_; have HO304 := n2_; have HO312 := n3_; have BK307 := n4_; have BK315 := n5_; have HB := n6_; clear n0_ n1_ n2_ n3_ n4_ n5_ n6_; (try clear hb); (try clear hb2); (try clear hk); (try clear hi)))
            go_meet
            case rel => exact ⟨_, (!t316), (by first | rfl | (simp; done) | (simp [*]; done)), H', ⟨by have := HJ3.out; have := HJ11.out; have := HJ15.out; first | omega | exact Nat.le_refl _⟩, ⟨by (with_reducible repeat (first | apply Kd.R_alloc | apply Kd.R_drewN | apply Kd.R_drew)); exact Kd.R_mono HO_7.out (fun _ hk => ⟨hk.1.1.2, ⟨hk.1.2, hk.2⟩⟩)⟩, ⟨by (with_reducible repeat (first | apply Kd.L_alloc | apply Kd.L_drewN | apply Kd.L_drew)); exact Kd.L_mono HO299.out (fun _ hk => ⟨hk.1.1.2, ⟨hk.1.2, hk.2⟩⟩)⟩, ⟨by (with_reducible repeat (first | apply Kd.R_alloc | apply Kd.R_drewN | apply Kd.R_drew)); exact Kd.R_mono HO304.out (fun _ hk => ⟨hk.1.1.2, ⟨hk.1.2, hk.2⟩⟩)⟩, ⟨by (with_reducible repeat (first | apply Kd.R_alloc | apply Kd.R_drewN | apply Kd.R_drew)); exact Kd.R_mono HO312.out (fun _ hk => ⟨hk.1.1.2, ⟨hk.1.2, hk.2⟩⟩)⟩, ⟨by (with_reducible repeat (first | refine blk_drewN ?_ _ | refine blk_drew ?_ | refine blk_alloc ?_ _)); exact BK307.out⟩, ⟨by (with_reducible repeat (first | refine blk_drewN ?_ _ | refine blk_drew ?_ | refine blk_alloc ?_ _)); exact BK315.out⟩, ⟨by repeat (first | (with_reducible first | exact HB.out | apply below_alloc | apply pw_below_drewN | apply below_drew1 | refine below_set ?_ GE307.out | refine below_set ?_ GE315.out) | exact HB.out)⟩⟩
           ·
            rw [if_neg c52] at H
            have c52b0 : (t305 == t313) = false := beq_eq_false_iff_ne.mpr c52
            have c52b1 : (t305 != t313) = true := bne_iff_ne.mpr c52
            have H' := Aside0.mk H
            clear H
            go_wp2
            go_meet
            case rel => exact ⟨_, (true), (by first | rfl | (simp; done) | (simp [*]; done)), H', ⟨by have := HJ3.out; have := HJ11.out; have := HJ15.out; first | omega | exact Nat.le_refl _⟩, ⟨by (with_reducible repeat (first | apply Kd.R_alloc | apply Kd.R_drewN | apply Kd.R_drew)); exact Kd.R_mono (Kd.R_far (p := ⟨gb315, 2, none⟩) (Kd.R_far (p := ⟨gb315, 1, none⟩) (Kd.R_far (p := ⟨gb315, 0, none⟩) (Kd.R_types HO_7.out BK315.out (by decide)) (fun _ hk => hk.2) (.int .i64 t308)) (fun _ hk => hk.2) (.int .i64 t309)) (fun _ hk => hk.2) (.slice Ao50 t310.length co50)) (fun _ hk => ⟨hk.1.1.1.2, ⟨hk.1.1.2, hk.1.2⟩⟩)⟩, ⟨by (with_reducible repeat (first | apply Kd.L_alloc | apply Kd.L_drewN | apply Kd.L_drew)); exact Kd.L_mono (Kd.L_far (p := ⟨gb315, 2, none⟩) (Kd.L_far (p := ⟨gb315, 1, none⟩) (Kd.L_far (p := ⟨gb315, 0, none⟩) (Kd.L_types HO299.out BK315.out (by decide)) (fun _ hk => hk.2) (.int .i64 t308)) (fun _ hk => hk.2) (.int .i64 t309)) (fun _ hk => hk.2) (.slice Ao50 t310.length co50)) (fun _ hk => ⟨hk.1.1.1.2, ⟨hk.1.1.2, hk.1.2⟩⟩)⟩, ⟨by (with_reducible repeat (first | apply Kd.R_alloc | apply Kd.R_drewN | apply Kd.R_drew)); exact Kd.R_mono (Kd.R_far (p := ⟨gb315, 2, none⟩) (Kd.R_far (p := ⟨gb315, 1, none⟩) (Kd.R_far (p := ⟨gb315, 0, none⟩) (Kd.R_types HO304.out BK315.out (by decide)) (fun _ hk => hk.2) (.int .i64 t308)) (fun _ hk => hk.2) (.int .i64 t309)) (fun _ hk => hk.2) (.slice Ao50 t310.length co50)) (fun _ hk => ⟨hk.1.1.1.2, ⟨hk.1.1.2, hk.1.2⟩⟩)⟩, ⟨by (with_reducible repeat (first | apply Kd.R_alloc | apply Kd.R_drewN | apply Kd.R_drew)); exact Kd.R_mono (Kd.R_far (p := ⟨gb315, 2, none⟩) (Kd.R_far (p := ⟨gb315, 1, none⟩) (Kd.R_far (p := ⟨gb315, 0, none⟩) (Kd.R_types HO312.out BK315.out (by decide)) (fun _ hk => hk.2) (.int .i64 t308)) (fun _ hk => hk.2) (.int .i64 t309)) (fun _ hk => hk.2) (.slice Ao50 t310.length co50)) (fun _ hk => ⟨hk.1.1.1.2, ⟨hk.1.1.2, hk.1.2⟩⟩)⟩, ⟨by (with_reducible repeat (first | refine blk_drewN ?_ _ | refine blk_drew ?_ | refine blk_alloc ?_ _)); refine blk_far ?_ NB307_315.out _; (with_reducible repeat (first | refine blk_drewN ?_ _ | refine blk_drew ?_ | refine blk_alloc ?_ _)); refine blk_far ?_ NB307_315.out _; (with_reducible repeat (first | refine blk_drewN ?_ _ | refine blk_drew ?_ | refine blk_alloc ?_ _)); refine blk_far ?_ NB307_315.out _; (with_reducible repeat (first | refine blk_drewN ?_ _ | refine blk_drew ?_ | refine blk_alloc ?_ _)); exact BK307.out⟩, ⟨by (with_reducible repeat (first | refine blk_drewN ?_ _ | refine blk_drew ?_ | refine blk_alloc ?_ _)); refine blk_put (cs := #[.int .i64 t308, .int .i64 t309, .slice none 0 0]) ?_ 2 _ rfl; (with_reducible repeat (first | refine blk_drewN ?_ _ | refine blk_drew ?_ | refine blk_alloc ?_ _)); refine blk_put (cs := #[.int .i64 t308, .int .i64 0, .slice none 0 0]) ?_ 1 _ rfl; (with_reducible repeat (first | refine blk_drewN ?_ _ | refine blk_drew ?_ | refine blk_alloc ?_ _)); refine blk_put (cs := #[.int .i64 0, .int .i64 0, .slice none 0 0]) ?_ 0 _ rfl; (with_reducible repeat (first | refine blk_drewN ?_ _ | refine blk_drew ?_ | refine blk_alloc ?_ _)); exact BK315.out⟩, ⟨by repeat (first | (with_reducible first | exact HB.out | apply below_alloc | apply pw_below_drewN | apply below_drew1 | refine below_set ?_ GE307.out | refine below_set ?_ GE315.out) | exact HB.out)⟩⟩
          ·
           rw [if_neg c51] at H
           have c51b0 : (t306 == t314) = false := beq_eq_false_iff_ne.mpr c51
           have c51b1 : (t306 != t314) = true := bne_iff_ne.mpr c51
           (first | rw [c51b0] | (simp only [i64_w, i32_w]; rw [c51b0]) | skip)
           have H' := Aside0.mk H
           clear H
           go_wp2
           go_meet
           case rel => exact ⟨_, (true), (by first | rfl | (simp; done) | (simp [*]; done)), H', ⟨by have := HJ3.out; have := HJ11.out; have := HJ15.out; first | omega | exact Nat.le_refl _⟩, ⟨by (with_reducible repeat (first | apply Kd.R_alloc | apply Kd.R_drewN | apply Kd.R_drew)); exact Kd.R_mono (Kd.R_far (p := ⟨gb315, 2, none⟩) (Kd.R_far (p := ⟨gb315, 1, none⟩) (Kd.R_far (p := ⟨gb315, 0, none⟩) (Kd.R_types HO_7.out BK315.out (by decide)) (fun _ hk => hk.2) (.int .i64 t308)) (fun _ hk => hk.2) (.int .i64 t309)) (fun _ hk => hk.2) (.slice Ao50 t310.length co50)) (fun _ hk => ⟨hk.1.1.1.2, ⟨hk.1.1.2, hk.1.2⟩⟩)⟩, ⟨by (with_reducible repeat (first | apply Kd.L_alloc | apply Kd.L_drewN | apply Kd.L_drew)); exact Kd.L_mono (Kd.L_far (p := ⟨gb315, 2, none⟩) (Kd.L_far (p := ⟨gb315, 1, none⟩) (Kd.L_far (p := ⟨gb315, 0, none⟩) (Kd.L_types HO299.out BK315.out (by decide)) (fun _ hk => hk.2) (.int .i64 t308)) (fun _ hk => hk.2) (.int .i64 t309)) (fun _ hk => hk.2) (.slice Ao50 t310.length co50)) (fun _ hk => ⟨hk.1.1.1.2, ⟨hk.1.1.2, hk.1.2⟩⟩)⟩, ⟨by (with_reducible repeat (first | apply Kd.R_alloc | apply Kd.R_drewN | apply Kd.R_drew)); exact Kd.R_mono (Kd.R_far (p := ⟨gb315, 2, none⟩) (Kd.R_far (p := ⟨gb315, 1, none⟩) (Kd.R_far (p := ⟨gb315, 0, none⟩) (Kd.R_types HO304.out BK315.out (by decide)) (fun _ hk => hk.2) (.int .i64 t308)) (fun _ hk => hk.2) (.int .i64 t309)) (fun _ hk => hk.2) (.slice Ao50 t310.length co50)) (fun _ hk => ⟨hk.1.1.1.2, ⟨hk.1.1.2, hk.1.2⟩⟩)⟩, ⟨by (with_reducible repeat (first | apply Kd.R_alloc | apply Kd.R_drewN | apply Kd.R_drew)); exact Kd.R_mono (Kd.R_far (p := ⟨gb315, 2, none⟩) (Kd.R_far (p := ⟨gb315, 1, none⟩) (Kd.R_far (p := ⟨gb315, 0, none⟩) (Kd.R_types HO312.out BK315.out (by decide)) (fun _ hk => hk.2) (.int .i64 t308)) (fun _ hk => hk.2) (.int .i64 t309)) (fun _ hk => hk.2) (.slice Ao50 t310.length co50)) (fun _ hk => ⟨hk.1.1.1.2, ⟨hk.1.1.2, hk.1.2⟩⟩)⟩, ⟨by (with_reducible repeat (first | refine blk_drewN ?_ _ | refine blk_drew ?_ | refine blk_alloc ?_ _)); refine blk_far ?_ NB307_315.out _; (with_reducible repeat (first | refine blk_drewN ?_ _ | refine blk_drew ?_ | refine blk_alloc ?_ _)); refine blk_far ?_ NB307_315.out _; (with_reducible repeat (first | refine blk_drewN ?_ _ | refine blk_drew ?_ | refine blk_alloc ?_ _)); refine blk_far ?_ NB307_315.out _; (with_reducible repeat (first | refine blk_drewN ?_ _ | refine blk_drew ?_ | refine blk_alloc ?_ _)); exact BK307.out⟩, ⟨by (with_reducible repeat (first | refine blk_drewN ?_ _ | refine blk_drew ?_ | refine blk_alloc ?_ _)); refine blk_put (cs := #[.int .i64 t308, .int .i64 t309, .slice none 0 0]) ?_ 2 _ rfl; (with_reducible repeat (first | refine blk_drewN ?_ _ | refine blk_drew ?_ | refine blk_alloc ?_ _)); refine blk_put (cs := #[.int .i64 t308, .int .i64 0, .slice none 0 0]) ?_ 1 _ rfl; (with_reducible repeat (first | refine blk_drewN ?_ _ | refine blk_drew ?_ | refine blk_alloc ?_ _)); refine blk_put (cs := #[.int .i64 0, .int .i64 0, .slice none 0 0]) ?_ 0 _ rfl; (with_reducible repeat (first | refine blk_drewN ?_ _ | refine blk_drew ?_ | refine blk_alloc ?_ _)); exact BK315.out⟩, ⟨by repeat (first | (with_reducible first | exact HB.out | apply below_alloc | apply pw_below_drewN | apply below_drew1 | refine below_set ?_ GE307.out | refine below_set ?_ GE315.out) | exact HB.out)⟩⟩
         case rest =>
          clear HC38
          try clear c1
          try clear c2
          try clear p2
          try clear q2
          try clear hx2
          try clear qi2
          try clear c4
          try clear c5
          try clear c5b0
          try clear c5b1
          try clear c8
          try clear c11
          try clear c12
          try clear c13
          try clear c14
          try clear c17
          try clear c18
          try clear c19
          try clear c19b0
          try clear c19b1
          try clear p20
          try clear q20
          try clear hx20
          try clear qi20
          try clear hf20
          try clear c21
          try clear c21b0
          try clear c21b1
          try clear p22
          try clear q22
          try clear hx22
          try clear qi22
          try clear hf22
          try clear c23
          try clear c23b0
          try clear c23b1
          try clear p24
          try clear q24
          try clear hx24
          try clear qi24
          try clear hf24
          try clear c25
          try clear c25b0
          try clear c25b1
          try clear p26
          try clear q26
          try clear hx26
          try clear qi26
          try clear hf26
          try clear c48
          try clear c51
          try clear c51b0
          try clear c51b1
          try clear c52
          try clear c52b0
          try clear c52b1
          try clear c54
          try clear hcz44_0
          try clear hcz44_1
          try clear hcz44_2
          try clear hcz49_0
          try clear hcz49_1
          try clear hcz49_2
          try clear hcz55_0
          try clear hcz55_1
          try clear hcz55_2
          try clear hcz56_0
          try clear hcz56_1
          try clear hcz56_2
          try clear hfz44_0
          try clear hfz44_1
          try clear hfz44_2
          try clear hfz49_0
          try clear hfz49_1
          try clear hfz49_2
          try clear hfz55_0
          try clear hfz55_1
          try clear hfz55_2
          try clear hfz56_0
          try clear hfz56_1
          try clear hfz56_2
          try clear hx20_0
          try clear hx22_0
          try clear hx24_0
          try clear hx26_0
          try clear p2
          try clear p20
          try clear p22
          try clear p24
          try clear p26
          try clear q2
          try clear q20
          try clear q22
          try clear q24
          try clear q26
          obtain ⟨kq, x70_37, rfl, HA, HJ37, HO_7, HO_8, HO_308002, HO_316002, BK307, BK315, HB⟩ := hcut
          cases kq with
          | zero => exact absurd HA.out (by simp [busbarlaw8_AduCuts.j3])
          | succ kj37 =>
           have H := HA.out
           clear HA
           simp only [busbarlaw8_AduCuts.j3] at H
           by_cases c58 : x70_37 = true
           ·
            subst c58
            have H1 : (some false) = some r := by rw [if_pos rfl] at H; exact H
            clear H
            have H := H1
            clear H1
            obtain rfl := Option.some.inj H
            go_wp2
            go_ret
            exact ⟨by first | rfl | (simp [errW_none, errW_some] <;> rfl) | (simp [*, errW_none, errW_some] <;> rfl), by repeat (first | (with_reducible first | exact HB.out | apply below_alloc | apply pw_below_drewN | apply below_drew1 | refine below_set ?_ GE307.out | refine below_set ?_ GE315.out) | exact HB.out)⟩
           ·
            replace c58 := Bool.eq_false_iff.mpr c58
            subst c58
            have H1 : (busbarlaw8_AduCuts.l0 kj37 x7_15 t297 0 t300 t301 t302) = some r := by rw [if_neg (show ¬ (false = true) by decide)] at H; exact H
            clear H
            have H := H1
            clear H1
            have H' := Aside0.mk H
            clear H
            go_wp2
            go_loopg [15] kj37 (fun kq v15 w' => ∃ (x7_5 : List Int) (x8_5 : List Int) (x15_5 : Int) (x308002_5 : List Int) (x316002_5 : List Int) (u308002 : Value) (u316002 : Value), v15 = .int .i64 x15_5 ∧ Aside0 (busbarlaw8_AduCuts.l0 kq x7_5 x8_5 x15_5 t300 t301 x308002_5 = some r) ∧ Aside0 (kq ≤ kj37) ∧ Aside0 (Kd.R (Kd.int .u8) 5 w' w.heap.size (fun k_ => some k_ ≠ ((.slice Ao41 t297.length co41) : Value).ownBlock ∧ some k_ ≠ (u308002 : Value).ownBlock ∧ some k_ ≠ (u316002 : Value).ownBlock) (.slice Ao39 x7_15.length co39) x7_5) ∧ Aside0 (Kd.L (Kd.int .u8) 5 w' w.heap.size (fun k_ => some k_ ≠ ((.slice Ao39 x7_15.length co39) : Value).ownBlock ∧ some k_ ≠ (u308002 : Value).ownBlock ∧ some k_ ≠ (u316002 : Value).ownBlock) (.slice Ao41 t297.length co41) x8_5) ∧ Aside0 (Kd.R (Kd.int .u8) 5 w' w.heap.size (fun k_ => some k_ ≠ ((.slice Ao39 x7_15.length co39) : Value).ownBlock ∧ some k_ ≠ ((.slice Ao41 t297.length co41) : Value).ownBlock ∧ some k_ ≠ (u316002 : Value).ownBlock) u308002 x308002_5) ∧ Aside0 (Kd.R (Kd.int .u8) 5 w' w.heap.size (fun k_ => some k_ ≠ ((.slice Ao39 x7_15.length co39) : Value).ownBlock ∧ some k_ ≠ ((.slice Ao41 t297.length co41) : Value).ownBlock ∧ some k_ ≠ (u308002 : Value).ownBlock) u316002 x316002_5) ∧ Aside0 (w'.heap[gb307]? = some (.cells #[.int .i64 t300, .int .i64 t301, u308002] 30 (0, 0))) ∧ Aside0 (w'.heap[gb315]? = some (.cells #[.int .i64 t308, .int .i64 t309, u316002] 32 (0, 0))) ∧ Aside0 (Below w.heap.size w w'))
            case atStart => exact ⟨(x7_15), (t297), (0), (t302), (t310), (.slice Ao45 t302.length co45), (.slice Ao50 t310.length co50), (by first | rfl | (simp; done) | (simp [*]; done)), H', ⟨Nat.le_refl _⟩, ⟨by (with_reducible repeat (first | apply Kd.R_alloc | apply Kd.R_drewN | apply Kd.R_drew)); exact HO_7.out⟩, ⟨by (with_reducible repeat (first | apply Kd.L_alloc | apply Kd.L_drewN | apply Kd.L_drew)); exact HO_8.out⟩, ⟨by (with_reducible repeat (first | apply Kd.R_alloc | apply Kd.R_drewN | apply Kd.R_drew)); exact HO_308002.out⟩, ⟨by (with_reducible repeat (first | apply Kd.R_alloc | apply Kd.R_drewN | apply Kd.R_drew)); exact HO_316002.out⟩, ⟨by (with_reducible repeat (first | refine blk_drewN ?_ _ | refine blk_drew ?_ | refine blk_alloc ?_ _)); exact BK307.out⟩, ⟨by (with_reducible repeat (first | refine blk_drewN ?_ _ | refine blk_drew ?_ | refine blk_alloc ?_ _)); exact BK315.out⟩, ⟨by repeat (first | (with_reducible first | exact HB.out | apply below_alloc | apply pw_below_drewN | apply below_drew1 | refine below_set ?_ GE307.out | refine below_set ?_ GE315.out) | exact HB.out)⟩⟩
            case round =>
             clear H'
             try clear c1
             try clear c2
             try clear p2
             try clear q2
             try clear hx2
             try clear qi2
             try clear c4
             try clear c5
             try clear c5b0
             try clear c5b1
             try clear c8
             try clear c11
             try clear c12
             try clear c13
             try clear c14
             try clear c17
             try clear c18
             try clear c19
             try clear c19b0
             try clear c19b1
             try clear p20
             try clear q20
             try clear hx20
             try clear qi20
             try clear hf20
             try clear c21
             try clear c21b0
             try clear c21b1
             try clear p22
             try clear q22
             try clear hx22
             try clear qi22
             try clear hf22
             try clear c23
             try clear c23b0
             try clear c23b1
             try clear p24
             try clear q24
             try clear hx24
             try clear qi24
             try clear hf24
             try clear c25
             try clear c25b0
             try clear c25b1
             try clear p26
             try clear q26
             try clear hx26
             try clear qi26
             try clear hf26
             try clear c48
             try clear c51
             try clear c51b0
             try clear c51b1
             try clear c52
             try clear c52b0
             try clear c52b1
             try clear c54
             try clear c58
             try clear hcz44_0
             try clear hcz44_1
             try clear hcz44_2
             try clear hcz49_0
             try clear hcz49_1
             try clear hcz49_2
             try clear hcz55_0
             try clear hcz55_1
             try clear hcz55_2
             try clear hcz56_0
             try clear hcz56_1
             try clear hcz56_2
             try clear hfz44_0
             try clear hfz44_1
             try clear hfz44_2
             try clear hfz49_0
             try clear hfz49_1
             try clear hfz49_2
             try clear hfz55_0
             try clear hfz55_1
             try clear hfz55_2
             try clear hfz56_0
             try clear hfz56_1
             try clear hfz56_2
             try clear hx20_0
             try clear hx22_0
             try clear hx24_0
             try clear hx26_0
             try clear p2
             try clear p20
             try clear p22
             try clear p24
             try clear p26
             try clear q2
             try clear q20
             try clear q22
             try clear q24
             try clear q26
             obtain ⟨x7_5, x8_5, x15_5, x308002_5, x316002_5, u308002, u316002, rfl, HA, HK5, HO_7, HO_8, HO_308002, HO_316002, BK307, BK315, HB⟩ := hrel
             have hl7_5 := (Kd.R_reads' HO_7.out).1
             rw [hl7_5] at HO_7
             (try simp only [hl7_5])
             (try simp only [hl7_5] at BK307)
             (try simp only [hl7_5] at BK315)
             (try simp only [hl7_5] at HO_8)
             (try simp only [hl7_5] at HO_308002)
             (try simp only [hl7_5] at HO_316002)
             have hl8_5 := (Kd.L_reads' HO_8.out).1
             rw [hl8_5] at HO_8
             (try simp only [hl8_5])
             (try simp only [hl8_5] at BK307)
             (try simp only [hl8_5] at BK315)
             (try simp only [hl8_5] at HO_7)
             (try simp only [hl8_5] at HO_308002)
             (try simp only [hl8_5] at HO_316002)
             cases gk with
             | zero => exact absurd HA.out (by simp [busbarlaw8_AduCuts.l0])
             | succ k5 =>
              have H := HA.out
              clear HA
              simp only [busbarlaw8_AduCuts.l0] at H
              by_cases c59 : x15_5 < (x308002_5.length : Int)
              ·
               rw [if_pos c59] at H
               have c59b0 : decide (x15_5 < (x308002_5.length : Int)) = true := decide_eq_true c59
               (try rw [hl7_5] at c59b0)
               (try rw [hl8_5] at c59b0)
               clear c59
               by_cases c60 : 0 ≤ x15_5
               ·
                rw [if_pos c60] at H
                have c60b0 : decide (0 ≤ x15_5) = true := decide_eq_true c60
                clear c60
                obtain ⟨y318, hy318⟩ : ∃ y_ : List Int, y_ = (x308002_5.set (x15_5 : Int).toNat (((rd x308002_5 x15_5) + 1) % 256)) := ⟨_, rfl⟩
                replace H : (busbarlaw8_AduCuts.l0 k5 x7_5 x8_5 (wrap64 (x15_5 + 1)) t300 t301 y318) = some r := by first | (rw [hy318]; with_reducible exact H) | (have H2_ := (Option.bind_some _ _).symm.trans H; rw [hy318]; with_reducible exact H2_) | (have H2_ := (Option.bind_some _ _).symm.trans H; with_reducible exact H2_) | with_reducible exact H | (rw [hy318]; exact H) | exact H
                have Ny318 := Aside0.mk hy318
                clear hy318
                have H' := Aside0.mk H
                clear H
                have hnb62 := NB307_315.out
                have hnc62 := NB315_307.out
                have hcz63_0 : wr.cell? ⟨gb307, 0, none⟩ = some (.int .i64 t300) := (blk_cell BK307.out 0).trans rfl
                have hcz63_1 : wr.cell? ⟨gb307, 1, none⟩ = some (.int .i64 t301) := (blk_cell BK307.out 1).trans rfl
                have hcz63_2 : wr.cell? ⟨gb307, 2, none⟩ = some (u308002) := (blk_cell BK307.out 2).trans rfl
                have hfz63_0 := blk_frozen BK307.out 0
                have hfz63_1 := blk_frozen BK307.out 1
                have hfz63_2 := blk_frozen BK307.out 2
                obtain ⟨Ao64, co64, eo64⟩ := Kd.R_slice HO_308002.out
                subst eo64
                have p317 : 0 ≤ (x15_5 : Int) := of_decide_eq_true (by first | (with_reducible assumption) | assumption)
                have q317 : x15_5 < (x308002_5.length : Int) := of_decide_eq_true (by first | (with_reducible assumption) | assumption)
                obtain ⟨ad317, e317, hx317_0⟩ := Kd.at_int (Kd.R_reads' HO_308002.out).2.2 x15_5 p317 q317
                cases e317
                replace p317 := eq_true p317
                replace q317 := eq_true q317
                have p61 : 0 ≤ (x15_5 : Int) := of_decide_eq_true (by first | (with_reducible assumption) | assumption)
                have q61 : (x15_5 : Int) < ((x308002_5.length : Int) : Int) := of_decide_eq_true (by first | (with_reducible assumption) | assumption)
                obtain ⟨go61, co61, eo61, gb61, gl61, cl61, HG61⟩ := Kd.R_form HO_308002.out (by omega)
                (first | cases eo61 | (injection eo61 with ea_ en_ ec_; (first | subst ea_ | (injection ea_ with ea_; subst ea_)); subst ec_; clear en_))
                have GB61 := Aside0.mk gb61
                have GG61 := Aside0.mk HG61
                clear gb61 gl61 HG61
                (first | simp only [add_plain] at hx317_0 | skip)
                obtain ⟨hx61_0, hf61_0⟩ := Kd.R_celln 0 HO_308002.out (x15_5 : Int) p61 q61
                replace p61 := eq_true p61
                replace q61 := eq_true q61
                have HP65 := Kd.R_putg HO_308002.out (x15_5 : Int) (((rd x308002_5 x15_5) + 1) % 256)
                go_wp2_with (first | ((with_reducible refine gate_store (t := 5) (p := 84) rfl ?_); refine store_event (t := 5) (p := 84) (v := ?vo_w66) (w1 := (wr.setCell ⟨go61, (x15_5 : Int).toNat, none⟩ (.int .u8 (((rd x308002_5 x15_5) + 1) % 256)))) ?hg ?ho ?hn ?hr ?_; (case ho => rfl); (case hg => rfl); (case hn => rfl); (case hr => first | (go_simp; done) | (go_simp; rfl)); intro w66 hw; have hg : wr.grownBy w66 (some go61) := (by rw [hw]; exact HP65.2); have hp_ : Kd.R (Kd.int .u8) 5 w66 w.heap.size (fun k_ => some k_ ≠ (.slice Ao39 x7_5.length co39 : Value).ownBlock ∧ some k_ ≠ (.slice Ao41 x8_5.length co41 : Value).ownBlock ∧ some k_ ≠ (u316002 : Value).ownBlock) (.slice (some ⟨go61, 0, none⟩) x308002_5.length co64) y318 := (by rw [hw, Ny318.out]; exact HP65.1); clear HP65; have n0_ := Aside0.mk (Kd.R_after (v := (.slice (some ⟨go61, 0, none⟩) x308002_5.length co64)) (v1 := (.slice (some ⟨go61, 0, none⟩) x308002_5.length co64)) (ok := (fun k_ => some k_ ≠ (.slice Ao41 x8_5.length co41 : Value).ownBlock ∧ some k_ ≠ (u316002 : Value).ownBlock)) (by (with_reducible repeat (first | apply Kd.R_alloc | apply Kd.R_drewN | apply Kd.R_drew)); exact Kd.R_mono HO_7.out (fun _ hk => ⟨⟨hk.1, hk.2.2⟩, hk.2.1⟩)) hg (.inl rfl)); have n1_ := Aside0.mk (Kd.L_after (v := (.slice (some ⟨go61, 0, none⟩) x308002_5.length co64)) (v1 := (.slice (some ⟨go61, 0, none⟩) x308002_5.length co64)) (ok := (fun k_ => some k_ ≠ (.slice Ao39 x7_5.length co39 : Value).ownBlock ∧ some k_ ≠ (u316002 : Value).ownBlock)) (by (with_reducible repeat (first | apply Kd.L_alloc | apply Kd.L_drewN | apply Kd.L_drew)); exact Kd.L_mono HO_8.out (fun _ hk => ⟨⟨hk.1, hk.2.2⟩, hk.2.1⟩)) hg (.inl rfl)); have n2_ := Aside0.mk (hp_); have n3_ := Aside0.mk (Kd.R_after (v := (.slice (some ⟨go61, 0, none⟩) x308002_5.length co64)) (v1 := (.slice (some ⟨go61, 0, none⟩) x308002_5.length co64)) (ok := (fun k_ => some k_ ≠ (.slice Ao39 x7_5.length co39 : Value).ownBlock ∧ some k_ ≠ (.slice Ao41 x8_5.length co41 : Value).ownBlock)) (by (with_reducible repeat (first | apply Kd.R_alloc | apply Kd.R_drewN | apply Kd.R_drew)); exact Kd.R_mono HO_316002.out (fun _ hk => ⟨⟨hk.1, hk.2.1⟩, hk.2.2⟩)) hg (.inl rfl)); have n4_ := Aside0.mk (blk_grown (g := gb307) (o := .cells #[.int .i64 t300, .int .i64 t301, .slice (some ⟨go61, 0, none⟩) x308002_5.length co64] 30 (0, 0)) (by (with_reducible repeat (first | refine blk_drewN ?_ _ | refine blk_drew ?_ | refine blk_alloc ?_ _)); exact BK307.out) hg (Kd.R_ne HO_308002.out BK307.out (by decide))); have n5_ := Aside0.mk (blk_grown (g := gb315) (o := .cells #[.int .i64 t308, .int .i64 t309, u316002] 32 (0, 0)) (by (with_reducible repeat (first | refine blk_drewN ?_ _ | refine blk_drew ?_ | refine blk_alloc ?_ _)); exact BK315.out) hg (Kd.R_ne HO_308002.out BK315.out (by decide))); have n6_ := Aside0.mk ((by rw [hw]; exact below_set (HB.out) GB61.out : Below w.heap.size w w66)); clear HO_7; clear HO_8; clear HO_308002; clear HO_316002; clear BK307; clear BK315; clear HB; have HO_7 := n0_; have HO_8 := n1_; have HO_308002 := n2_; have HO_316002 := n3_; have BK307 := n4_; have BK315 := n5_; have HB := n6_; clear n0_ n1_ n2_ n3_ n4_ n5_ n6_; clear hg hw hp_))
                (try simp only [← hl7_5, ← hl8_5])
                go_roundg k5
                case measure => have := HJ3.out; have := HJ11.out; have := HJ15.out; have := HJ37.out; have := HK5.out; omega
                case rel => exact ⟨(x7_5), (x8_5), (wrap64 (x15_5 + 1)), (y318), (x316002_5), (.slice (some ⟨go61, 0, none⟩) x308002_5.length co64), (u316002), (by first | rfl | (simp; done) | (simp [*]; done)), H', ⟨by have := HJ3.out; have := HJ11.out; have := HJ15.out; have := HJ37.out; have := HK5.out; omega⟩, ⟨by (try simp only [hl7_5]); (try simp only [hl8_5]); (with_reducible repeat (first | apply Kd.R_alloc | apply Kd.R_drewN | apply Kd.R_drew)); exact Kd.R_mono HO_7.out (fun _ hk => ⟨hk.1.1, ⟨hk.2, hk.1.2⟩⟩)⟩, ⟨by (try simp only [hl7_5]); (try simp only [hl8_5]); (with_reducible repeat (first | apply Kd.L_alloc | apply Kd.L_drewN | apply Kd.L_drew)); exact Kd.L_mono HO_8.out (fun _ hk => ⟨hk.1.1, ⟨hk.2, hk.1.2⟩⟩)⟩, ⟨by (try simp only [hl7_5]); (try simp only [hl8_5]); (with_reducible repeat (first | apply Kd.R_alloc | apply Kd.R_drewN | apply Kd.R_drew)); exact HO_308002.out⟩, ⟨by (try simp only [hl7_5]); (try simp only [hl8_5]); (with_reducible repeat (first | apply Kd.R_alloc | apply Kd.R_drewN | apply Kd.R_drew)); exact Kd.R_mono HO_316002.out (fun _ hk => ⟨hk.1.1, ⟨hk.1.2, hk.2⟩⟩)⟩, ⟨by (try simp only [hl7_5]); (try simp only [hl8_5]); (with_reducible repeat (first | refine blk_drewN ?_ _ | refine blk_drew ?_ | refine blk_alloc ?_ _)); exact BK307.out⟩, ⟨by (try simp only [hl7_5]); (try simp only [hl8_5]); (with_reducible repeat (first | refine blk_drewN ?_ _ | refine blk_drew ?_ | refine blk_alloc ?_ _)); exact BK315.out⟩, ⟨by repeat (first | (with_reducible first | exact HB.out | apply below_alloc | apply pw_below_drewN | apply below_drew1 | refine below_set ?_ GE307.out | refine below_set ?_ GE315.out) | exact HB.out)⟩⟩
               ·
                rw [if_neg c60] at H
                exact absurd H (by simp)
              ·
               rw [if_neg c59] at H
               have c59b0 : decide (x15_5 < (x308002_5.length : Int)) = false := decide_eq_false c59
               (try rw [hl7_5] at c59b0)
               (try rw [hl8_5] at c59b0)
               clear c59
               replace H := Option.bind_eq_some_iff.mp H
               obtain ⟨t319, A670, H⟩ := H
               replace H : (some t319) = some r := H
               have A67 := Aside0.mk A670
               clear A670
               obtain rfl := Option.some.inj H
               have hnb68 := NB307_315.out
               have hnc68 := NB315_307.out
               have hcz69_0 : wr.cell? ⟨gb307, 0, none⟩ = some (.int .i64 t300) := (blk_cell BK307.out 0).trans rfl
               have hcz69_1 : wr.cell? ⟨gb307, 1, none⟩ = some (.int .i64 t301) := (blk_cell BK307.out 1).trans rfl
               have hcz69_2 : wr.cell? ⟨gb307, 2, none⟩ = some (u308002) := (blk_cell BK307.out 2).trans rfl
               have hfz69_0 := blk_frozen BK307.out 0
               have hfz69_1 := blk_frozen BK307.out 1
               have hfz69_2 := blk_frozen BK307.out 2
               obtain ⟨Ao70, co70, eo70⟩ := Kd.R_slice HO_308002.out
               subst eo70
               go_wp2_with (first | ((with_reducible refine gate_callee (f := 16) rfl ?_); refine goesL_ (some 87) rfl rfl Try.func16 (by kernel_rfl) rfl #[.slice Ao41 x8_5.length co41, .slice Ao39 x7_5.length co39] rfl (by (try simp only [List.map_toArray, List.map_cons, List.map_nil]); first | done | rfl | (simp only [List.length_drop, List.length_take]; rfl)) ?_; (with_reducible refine (busbarlaw0_StaysBytes.calls k5 _ _ x8_5 _ _ x7_5 t319 _ ?side1 ?side2 ?side3 ?side4 A67.out).mono ?_); (case side1 => repeat (first | exact (Kd.L_reads3 HO_8.out).2.2 | (with_reducible refine Kd.C_alloc ?_ _) | (with_reducible refine Kd.C_drewN ?_ _) | (with_reducible refine Kd.C_drew ?_))); (case side2 => exact (Kd.L_room3 HO_8.out)); (case side3 => repeat (first | exact (Kd.R_reads' HO_7.out).2.2 | (with_reducible refine Kd.C_alloc ?_ _) | (with_reducible refine Kd.C_drewN ?_ _) | (with_reducible refine Kd.C_drew ?_))); (case side4 => exact (Kd.R_reads' HO_7.out).2.1); rintro e w' ⟨rfl, ⟨nd, rfl⟩⟩; refine ⟨_, rfl, ?_⟩))
               go_ret
               exact ⟨by first | rfl | (simp [errW_none, errW_some] <;> rfl) | (simp [*, errW_none, errW_some] <;> rfl), by repeat (first | (with_reducible first | exact HB.out | apply below_alloc | apply pw_below_drewN | apply below_drew1 | refine below_set ?_ GE307.out | refine below_set ?_ GE315.out) | exact HB.out)⟩
    ·
     rw [if_neg c11] at H
     exact absurd H (by simp)

/-- THE ONE PURE STATEMENT of busbarlaw8_AduCuts: yours. -/
def busbarlaw8_AduCuts.Pure : Prop := ∀ (l0 : List Int) (a1 : Bool) (a2 : Int), l0.length ≤ maxLen → l0.length * 1 ≤ 140737488351232 → (∀ x ∈ l0, (Lit.int .u8 x).wf = true) → (Lit.int .i64 a2).wf = true → ∃ k, busbarlaw8_AduCuts.f k l0 a1 a2 = some true
theorem busbarlaw8_AduCuts.walk (P : busbarlaw8_AduCuts.Pure) (a0 : Option Addr) (len0 cap0 : Nat) (z0 : List Int) (a1 : Bool) (a2 : Int) (w : World) (w0 : (a0 = none ∧ len0 = 0 ∧ cap0 = 0 ∧ z0 = []) ∨ ∃ x, a0 = some x ∧ len0 ≤ cap0 ∧ cap0 ≤ maxLen ∧ z0.length = cap0 ∧ (∀ i, i < z0.length → w.cell? (x.add i) = some (.int .u8 (z0.getD i 0))) ∧ ∀ n ∈ z0, (Lit.int .u8 n).wf = true) (y0 : len0 * 1 ≤ 140737488351232) (w2 : (Lit.int .i64 a2).wf = true) :
  Calls Try.prog 4 #[.slice a0 len0 cap0, .bool a1, .int .i64 a2] w fun e w' => e = .returned (.bool true) ∧ Below w.heap.size w w' := by
 obtain ⟨l0, rfl, hr0, hm0, hw0, hc0⟩ := ReadsInt.ofRowC w0
 obtain ⟨k, h⟩ := P l0 a1 a2 hm0 y0 hw0 w2
 refine (busbarlaw8_AduCuts.calls k _ _ l0 a1 a2 true w (Kd.C_of_reads (d := (0 : Int)) (h1 := fun _ => rfl) hr0) hc0 h).mono ?_
 rintro e w' ⟨rfl, hd⟩
 exact ⟨rfl, hd⟩

end Go.Proofs.Ytgbclemmadkcmaa.PAdu
