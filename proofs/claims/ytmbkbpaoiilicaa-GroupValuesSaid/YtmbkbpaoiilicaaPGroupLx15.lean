-- written by a program of this session (wip/pp) over the kit's print.py; Lean checks it
import Derived.Test.YtmbkbpaoiilicaaPGroupLx0
import Derived.Test.YtmbkbpaoiilicaaPGroupLx7
import Derived.Test.YtmbkbpaoiilicaaPGroupLx8
import Derived.Test.YtmbkbpaoiilicaaPGroupLx11
import Derived.Test.YtmbkbpaoiilicaaPGroupLx12
import Derived.Test.YtmbkbpaoiilicaaPGroupLx13
import Derived.Test.YtmbkbpaoiilicaaPGroupLx14
namespace Go.Proofs.Ytmbkbpaoiilicaa.PGroupL
open Go.RowKit Go.Proofs.YtmbkbpaoiilicaaW.PrintWords Go.Proofs.YtmbkbpaoiilicaaW.PrintLast Go.Proofs.YtmbkbpaoiilicaaW.PrintMore
attribute [local go_sem] max2_int min2_int max_two min_two max_three min_three max_four min_four plus_setCell_drewN plus_cell_same   -- for this text's walks alone
set_option linter.unusedVariables false
set_option linter.unusedSimpArgs false

/-! ### busbarlaw14_GroupValues: function 10 -/
mutual
def busbarlaw14_GroupValues.j0 : Nat → List Int → Int → Int → Bool → Bool → Option (Bool)
 | 0, _, _, _, _, _ => none
 | k + 1, x0, x1, x2, x3, x28 => if x28 = true then ((busbarlaw14_awake.f k).bind fun t231 => (some t231)) else (if x3 = true then ((busbarlaw0_Within.f x2 6).bind fun t232 => (busbarlaw14_GroupValues.j1 k x0 x1 t232)) else (busbarlaw14_GroupValues.j1 k x0 x1 x2))
def busbarlaw14_GroupValues.j1 : Nat → List Int → Int → Int → Option (Bool)
 | 0, _, _, _ => none
 | k + 1, x0, x1, x2 => (busbarlaw0_LentWords.f k x0).bind fun t233 => ((group_Value.f k t233).bind fun bt236 => ((busbarref12_Value.f k x0).bind fun bt238 => ((group_Words.f k x1 x2).bind fun bt240 => ((busbarref12_Words.f k x1 x2).bind fun bt244 => (if bt236.1 = bt238.1 then (if (bt236.2 != bt238.2) = true then (busbarlaw14_GroupValues.j2 k x0 x1 bt236.1 bt236.2 bt240.1 bt240.2 true) else ((busbarlaw0_SameWords.f k bt240.1 bt244.1).bind fun t248 => (if t248 = true then (if (bt240.2 != bt244.2) = true then (busbarlaw14_GroupValues.j2 k x0 x1 bt236.1 bt236.2 bt240.1 bt240.2 true) else ((busbarlaw0_StaysWords.f k t233 x0).bind fun t249 => (busbarlaw14_GroupValues.j2 k x0 x1 bt236.1 bt236.2 bt240.1 bt240.2 (!t249)))) else (busbarlaw14_GroupValues.j2 k x0 x1 bt236.1 bt236.2 bt240.1 bt240.2 true)))) else (busbarlaw14_GroupValues.j2 k x0 x1 bt236.1 bt236.2 bt240.1 bt240.2 true))))))
def busbarlaw14_GroupValues.j2 : Nat → List Int → Int → Int → Bool → List Int → Bool → Bool → Option (Bool)
 | 0, _, _, _, _, _, _, _ => none
 | k + 1, x0, x1, x10, x11, x14, x15, x81 => if x81 = true then (some false) else (if x15 = true then ((group_Value.f k x14).bind fun bt250 => (if bt250.2 = true then (if bt250.1 = x1 then (busbarlaw14_GroupValues.j3 k x0 x10 x11) else (some false)) else (some false))) else (busbarlaw14_GroupValues.j3 k x0 x10 x11))
def busbarlaw14_GroupValues.j3 : Nat → List Int → Int → Bool → Option (Bool)
 | 0, _, _, _ => none
 | k + 1, x0, x10, x11 => if x11 = true then ((group_Words.f k x10 (x0.length : Int)).bind fun bt252 => (if bt252.2 = true then ((busbarlaw0_SameWords.f k bt252.1 x0).bind fun t256 => (some t256)) else (some false))) else (some true)
end
def busbarlaw14_GroupValues.f (k : Nat) (l0 : List Int) (a1 : Int) (a2 : Int) (a3 : Bool) : Option (Bool) := if (l0.length : Int) > 40 then (busbarlaw14_GroupValues.j0 k l0 a1 a2 a3 true) else ((busbarlaw14_awake.f k).bind fun t230 => (busbarlaw14_GroupValues.j0 k l0 a1 a2 a3 (!t230)))
theorem busbarlaw14_GroupValues.mono_l : ∀ k, (∀ y0 y1 y2 y3 y4, LeO (busbarlaw14_GroupValues.j0 k y0 y1 y2 y3 y4) (busbarlaw14_GroupValues.j0 (k + 1) y0 y1 y2 y3 y4)) ∧ (∀ y0 y1 y2, LeO (busbarlaw14_GroupValues.j1 k y0 y1 y2) (busbarlaw14_GroupValues.j1 (k + 1) y0 y1 y2)) ∧ (∀ y0 y1 y2 y3 y4 y5 y6, LeO (busbarlaw14_GroupValues.j2 k y0 y1 y2 y3 y4 y5 y6) (busbarlaw14_GroupValues.j2 (k + 1) y0 y1 y2 y3 y4 y5 y6)) ∧ (∀ y0 y1 y2, LeO (busbarlaw14_GroupValues.j3 k y0 y1 y2) (busbarlaw14_GroupValues.j3 (k + 1) y0 y1 y2))
 | 0 => ⟨fun _ _ _ _ _ r h => by simp [busbarlaw14_GroupValues.j0] at h, fun _ _ _ r h => by simp [busbarlaw14_GroupValues.j1] at h, fun _ _ _ _ _ _ _ r h => by simp [busbarlaw14_GroupValues.j2] at h, fun _ _ _ r h => by simp [busbarlaw14_GroupValues.j3] at h⟩
 | k + 1 => by
  obtain ⟨ih0, ih1, ih2, ih3⟩ := busbarlaw14_GroupValues.mono_l k
  refine ⟨?_, ?_, ?_, ?_⟩
  ·
   intro y0 y1 y2 y3 y4
   unfold busbarlaw14_GroupValues.j0
   repeat' first
   | (with_reducible exact ih0 _ _ _ _ _)
   | (with_reducible exact ih1 _ _ _)
   | (with_reducible exact ih2 _ _ _ _ _ _ _)
   | (with_reducible exact ih3 _ _ _)
   | (with_reducible exact busbarlaw0_LentWords.mono _ _)
   | (with_reducible exact busbarlaw0_SameWords.mono _ _ _)
   | (with_reducible exact busbarlaw0_StaysWords.mono _ _ _)
   | (with_reducible exact busbarlaw14_awake.mono _)
   | (with_reducible exact busbarref12_Value.mono _ _)
   | (with_reducible exact busbarref12_Words.mono _ _ _)
   | (with_reducible exact group_Value.mono _ _)
   | (with_reducible exact group_Words.mono _ _ _)
   | (with_reducible exact LeO.refl _)
   | (with_reducible exact LeO.none _)
   | (with_reducible refine LeO.ite ?_ ?_)
   | (with_reducible refine LeO.bind ?_ (fun _ => ?_))
   | exact ih0 _ _ _ _ _
   | exact ih1 _ _ _
   | exact ih2 _ _ _ _ _ _ _
   | exact ih3 _ _ _
   | exact busbarlaw0_LentWords.mono _ _
   | exact busbarlaw0_SameWords.mono _ _ _
   | exact busbarlaw0_StaysWords.mono _ _ _
   | exact busbarlaw14_awake.mono _
   | exact busbarref12_Value.mono _ _
   | exact busbarref12_Words.mono _ _ _
   | exact group_Value.mono _ _
   | exact group_Words.mono _ _ _
   | exact LeO.none _
   | refine LeO.ite ?_ ?_
   | refine LeO.bind ?_ (fun _ => ?_)
  ·
   intro y0 y1 y2
   unfold busbarlaw14_GroupValues.j1
   repeat' first
   | (with_reducible exact ih0 _ _ _ _ _)
   | (with_reducible exact ih1 _ _ _)
   | (with_reducible exact ih2 _ _ _ _ _ _ _)
   | (with_reducible exact ih3 _ _ _)
   | (with_reducible exact busbarlaw0_LentWords.mono _ _)
   | (with_reducible exact busbarlaw0_SameWords.mono _ _ _)
   | (with_reducible exact busbarlaw0_StaysWords.mono _ _ _)
   | (with_reducible exact busbarlaw14_awake.mono _)
   | (with_reducible exact busbarref12_Value.mono _ _)
   | (with_reducible exact busbarref12_Words.mono _ _ _)
   | (with_reducible exact group_Value.mono _ _)
   | (with_reducible exact group_Words.mono _ _ _)
   | (with_reducible exact LeO.refl _)
   | (with_reducible exact LeO.none _)
   | (with_reducible refine LeO.ite ?_ ?_)
   | (with_reducible refine LeO.bind ?_ (fun _ => ?_))
   | exact ih0 _ _ _ _ _
   | exact ih1 _ _ _
   | exact ih2 _ _ _ _ _ _ _
   | exact ih3 _ _ _
   | exact busbarlaw0_LentWords.mono _ _
   | exact busbarlaw0_SameWords.mono _ _ _
   | exact busbarlaw0_StaysWords.mono _ _ _
   | exact busbarlaw14_awake.mono _
   | exact busbarref12_Value.mono _ _
   | exact busbarref12_Words.mono _ _ _
   | exact group_Value.mono _ _
   | exact group_Words.mono _ _ _
   | exact LeO.none _
   | refine LeO.ite ?_ ?_
   | refine LeO.bind ?_ (fun _ => ?_)
  ·
   intro y0 y1 y2 y3 y4 y5 y6
   unfold busbarlaw14_GroupValues.j2
   repeat' first
   | (with_reducible exact ih0 _ _ _ _ _)
   | (with_reducible exact ih1 _ _ _)
   | (with_reducible exact ih2 _ _ _ _ _ _ _)
   | (with_reducible exact ih3 _ _ _)
   | (with_reducible exact busbarlaw0_LentWords.mono _ _)
   | (with_reducible exact busbarlaw0_SameWords.mono _ _ _)
   | (with_reducible exact busbarlaw0_StaysWords.mono _ _ _)
   | (with_reducible exact busbarlaw14_awake.mono _)
   | (with_reducible exact busbarref12_Value.mono _ _)
   | (with_reducible exact busbarref12_Words.mono _ _ _)
   | (with_reducible exact group_Value.mono _ _)
   | (with_reducible exact group_Words.mono _ _ _)
   | (with_reducible exact LeO.refl _)
   | (with_reducible exact LeO.none _)
   | (with_reducible refine LeO.ite ?_ ?_)
   | (with_reducible refine LeO.bind ?_ (fun _ => ?_))
   | exact ih0 _ _ _ _ _
   | exact ih1 _ _ _
   | exact ih2 _ _ _ _ _ _ _
   | exact ih3 _ _ _
   | exact busbarlaw0_LentWords.mono _ _
   | exact busbarlaw0_SameWords.mono _ _ _
   | exact busbarlaw0_StaysWords.mono _ _ _
   | exact busbarlaw14_awake.mono _
   | exact busbarref12_Value.mono _ _
   | exact busbarref12_Words.mono _ _ _
   | exact group_Value.mono _ _
   | exact group_Words.mono _ _ _
   | exact LeO.none _
   | refine LeO.ite ?_ ?_
   | refine LeO.bind ?_ (fun _ => ?_)
  ·
   intro y0 y1 y2
   unfold busbarlaw14_GroupValues.j3
   repeat' first
   | (with_reducible exact ih0 _ _ _ _ _)
   | (with_reducible exact ih1 _ _ _)
   | (with_reducible exact ih2 _ _ _ _ _ _ _)
   | (with_reducible exact ih3 _ _ _)
   | (with_reducible exact busbarlaw0_LentWords.mono _ _)
   | (with_reducible exact busbarlaw0_SameWords.mono _ _ _)
   | (with_reducible exact busbarlaw0_StaysWords.mono _ _ _)
   | (with_reducible exact busbarlaw14_awake.mono _)
   | (with_reducible exact busbarref12_Value.mono _ _)
   | (with_reducible exact busbarref12_Words.mono _ _ _)
   | (with_reducible exact group_Value.mono _ _)
   | (with_reducible exact group_Words.mono _ _ _)
   | (with_reducible exact LeO.refl _)
   | (with_reducible exact LeO.none _)
   | (with_reducible refine LeO.ite ?_ ?_)
   | (with_reducible refine LeO.bind ?_ (fun _ => ?_))
   | exact ih0 _ _ _ _ _
   | exact ih1 _ _ _
   | exact ih2 _ _ _ _ _ _ _
   | exact ih3 _ _ _
   | exact busbarlaw0_LentWords.mono _ _
   | exact busbarlaw0_SameWords.mono _ _ _
   | exact busbarlaw0_StaysWords.mono _ _ _
   | exact busbarlaw14_awake.mono _
   | exact busbarref12_Value.mono _ _
   | exact busbarref12_Words.mono _ _ _
   | exact group_Value.mono _ _
   | exact group_Words.mono _ _ _
   | exact LeO.none _
   | refine LeO.ite ?_ ?_
   | refine LeO.bind ?_ (fun _ => ?_)
theorem busbarlaw14_GroupValues.mono : ∀ a0 a1 a2 a3 k, LeO (busbarlaw14_GroupValues.f k a0 a1 a2 a3) (busbarlaw14_GroupValues.f (k + 1) a0 a1 a2 a3) := by
 intro a0 a1 a2 a3 k
 obtain ⟨ih0, ih1, ih2, ih3⟩ := busbarlaw14_GroupValues.mono_l k
 unfold busbarlaw14_GroupValues.f
 repeat' first
   | (with_reducible exact ih0 _ _ _ _ _)
   | (with_reducible exact ih1 _ _ _)
   | (with_reducible exact ih2 _ _ _ _ _ _ _)
   | (with_reducible exact ih3 _ _ _)
   | (with_reducible exact busbarlaw0_LentWords.mono _ _)
   | (with_reducible exact busbarlaw0_SameWords.mono _ _ _)
   | (with_reducible exact busbarlaw0_StaysWords.mono _ _ _)
   | (with_reducible exact busbarlaw14_awake.mono _)
   | (with_reducible exact busbarref12_Value.mono _ _)
   | (with_reducible exact busbarref12_Words.mono _ _ _)
   | (with_reducible exact group_Value.mono _ _)
   | (with_reducible exact group_Words.mono _ _ _)
   | (with_reducible exact LeO.refl _)
   | (with_reducible exact LeO.none _)
   | (with_reducible refine LeO.ite ?_ ?_)
   | (with_reducible refine LeO.bind ?_ (fun _ => ?_))
   | exact ih0 _ _ _ _ _
   | exact ih1 _ _ _
   | exact ih2 _ _ _ _ _ _ _
   | exact ih3 _ _ _
   | exact busbarlaw0_LentWords.mono _ _
   | exact busbarlaw0_SameWords.mono _ _ _
   | exact busbarlaw0_StaysWords.mono _ _ _
   | exact busbarlaw14_awake.mono _
   | exact busbarref12_Value.mono _ _
   | exact busbarref12_Words.mono _ _ _
   | exact group_Value.mono _ _
   | exact group_Words.mono _ _ _
   | exact LeO.none _
   | refine LeO.ite ?_ ?_
   | refine LeO.bind ?_ (fun _ => ?_)
set_option maxHeartbeats 8000000 in
set_option maxRecDepth 100000 in
theorem busbarlaw14_GroupValues.calls (k : Nat) (A0 : Option Addr) (c0 : Nat) (l0 : List Int) (a1 : Int) (a2 : Int) (a3 : Bool) (r : Bool) (w : World) (hr0 : Kd.C (Kd.int .u16) w A0 l0.length l0) (hc0 : l0.length ≤ c0) (h : busbarlaw14_GroupValues.f k l0 a1 a2 a3 = some r) :
  Calls Try.prog 10 #[.slice A0 l0.length c0, .int .u64 a1, .int .i64 a2, .bool a3] w fun e w' => e = .returned (.bool r) ∧ Below w.heap.size w w' := by
 have HR0 := Aside0.mk hr0
 have HC0 := Aside0.mk hc0
 clear hr0 hc0
 have HB := Aside0.mk (Below.refl w.heap.size w)
 have H : (if (l0.length : Int) > 40 then (busbarlaw14_GroupValues.j0 k l0 a1 a2 a3 true) else ((busbarlaw14_awake.f k).bind fun t230 => (busbarlaw14_GroupValues.j0 k l0 a1 a2 a3 (!t230)))) = some r := h
 clear h
 have HC5 := Aside0.mk H
 clear H
 go_enter Try.func10, Try.ntmps10
 go_upto_region 1 with (fail)
 go_cut [28] (fun v28 wc => ∃ (kq : Nat) (x28_4 : Bool), v28 = .bool x28_4 ∧ Aside0 (busbarlaw14_GroupValues.j0 kq l0 a1 a2 a3 x28_4 = some r) ∧ Aside0 (kq ≤ k) ∧ Aside0 (Below w.heap.size w wc))
 case first =>
  have H := HC5.out
  clear HC5
  by_cases c6 : (l0.length : Int) > 40
  ·
   rw [if_pos c6] at H
   have c6b0 : decide (40 < (l0.length : Int)) = true := decide_eq_true c6
   have c6b1 : decide (40 < l0.length) = true := decide_eq_true (by omega)
   clear c6
   (first | rw [c6b0] | (simp only [i64_w, i32_w]; rw [c6b0]) | skip)
   have H' := Aside0.mk H
   clear H
   go_wp2
   go_meet
   case rel => exact ⟨_, (true), (by first | rfl | (simp; done) | (simp [*]; done)), H', ⟨by first | omega | exact Nat.le_refl _⟩, ⟨by repeat (first | (with_reducible first | exact HB.out | apply below_alloc | apply pw_below_drewN | apply below_drew1) | exact HB.out)⟩⟩
  ·
   rw [if_neg c6] at H
   have c6b0 : decide (40 < (l0.length : Int)) = false := decide_eq_false c6
   have c6b1 : decide (40 < l0.length) = false := decide_eq_false (by omega)
   clear c6
   (first | rw [c6b0] | (simp only [i64_w, i32_w]; rw [c6b0]) | skip)
   replace H := Option.bind_eq_some_iff.mp H
   obtain ⟨t230, A70, H⟩ := H
   replace H : (busbarlaw14_GroupValues.j0 k l0 a1 a2 a3 (!t230)) = some r := H
   have A7 := Aside0.mk A70
   clear A70
   have H' := Aside0.mk H
   clear H
   go_wp2_with (first | (go_at_call 12; (with_reducible refine (busbarlaw14_awake.calls k  t230 _ A7.out).mono ?_); rintro e w8 ⟨rfl, hb⟩; have n0_ := Aside0.mk (below_step (by repeat (first | (with_reducible first | exact HB.out | apply below_alloc | apply pw_below_drewN | apply below_drew1) | exact HB.out)) hb); clear HB; have HB := n0_; clear n0_; (try clear hb); (try clear hb2); (try clear hk); (try clear hi)))
   go_meet
   case rel => exact ⟨_, (!t230), (by first | rfl | (simp; done) | (simp [*]; done)), H', ⟨by first | omega | exact Nat.le_refl _⟩, ⟨by repeat (first | (with_reducible first | exact HB.out | apply below_alloc | apply pw_below_drewN | apply below_drew1) | exact HB.out)⟩⟩
 case rest =>
  clear HC5
  try clear c1
  try clear p2
  try clear c6
  try clear c6b0
  try clear c6b1
  obtain ⟨kq, x28_4, rfl, HA, HJ4, HB⟩ := hcut
  cases kq with
  | zero => exact absurd HA.out (by simp [busbarlaw14_GroupValues.j0])
  | succ kj4 =>
   have H := HA.out
   clear HA
   simp only [busbarlaw14_GroupValues.j0] at H
   by_cases c9 : x28_4 = true
   ·
    subst c9
    have H1 : ((busbarlaw14_awake.f kj4).bind fun t231 => (some t231)) = some r := by rw [if_pos rfl] at H; exact H
    clear H
    have H := H1
    clear H1
    replace H := Option.bind_eq_some_iff.mp H
    obtain ⟨t231, A100, H⟩ := H
    replace H : (some t231) = some r := H
    have A10 := Aside0.mk A100
    clear A100
    obtain rfl := Option.some.inj H
    go_wp2_with (first | ((with_reducible refine gate_callee (f := 12) rfl ?_); refine goesL_ (some 29) rfl rfl Try.func12 (by kernel_rfl) rfl #[] rfl (by (try simp only [List.map_toArray, List.map_cons, List.map_nil]); first | done | rfl | (simp only [List.length_drop, List.length_take]; rfl)) ?_; (with_reducible refine (busbarlaw14_awake.calls kj4  t231 _ A10.out).mono ?_); rintro e w11 ⟨rfl, hb⟩; refine ⟨_, rfl, ?_⟩; have n0_ := Aside0.mk (below_step (by repeat (first | (with_reducible first | exact HB.out | apply below_alloc | apply pw_below_drewN | apply below_drew1) | exact HB.out)) hb); clear HB; have HB := n0_; clear n0_; (try clear hb); (try clear hb2); (try clear hk); (try clear hi)))
    go_ret
    exact ⟨by first | rfl | (simp [errW_none, errW_some] <;> rfl) | (simp [*, errW_none, errW_some] <;> rfl), by repeat (first | (with_reducible first | exact HB.out | apply below_alloc | apply pw_below_drewN | apply below_drew1) | exact HB.out)⟩
   ·
    replace c9 := Bool.eq_false_iff.mpr c9
    subst c9
    have H1 : (if a3 = true then ((busbarlaw0_Within.f a2 6).bind fun t232 => (busbarlaw14_GroupValues.j1 kj4 l0 a1 t232)) else (busbarlaw14_GroupValues.j1 kj4 l0 a1 a2)) = some r := by rw [if_neg (show ¬ (false = true) by decide)] at H; exact H
    clear H
    have H := H1
    clear H1
    have HC12 := Aside0.mk H
    clear H
    go_upto_if 30 with (fail)
    go_cut [2] (fun v2 wc => ∃ (kq : Nat) (x2_11 : Int), v2 = .int .i64 x2_11 ∧ Aside0 (busbarlaw14_GroupValues.j1 kq l0 a1 x2_11 = some r) ∧ Aside0 (kq ≤ kj4) ∧ Aside0 (Below w.heap.size w wc))
    case first =>
     have H := HC12.out
     clear HC12
     by_cases c13 : a3 = true
     ·
      subst c13
      have H1 : ((busbarlaw0_Within.f a2 6).bind fun t232 => (busbarlaw14_GroupValues.j1 kj4 l0 a1 t232)) = some r := by rw [if_pos rfl] at H; exact H
      clear H
      have H := H1
      clear H1
      replace H := Option.bind_eq_some_iff.mp H
      obtain ⟨t232, A140, H⟩ := H
      replace H : (busbarlaw14_GroupValues.j1 kj4 l0 a1 t232) = some r := H
      have A14 := Aside0.mk A140
      clear A140
      have H' := Aside0.mk H
      clear H
      go_wp2_with (first | ((with_reducible refine gate_callee (f := 14) rfl ?_); refine goesL_ (some 32) rfl rfl Try.func14 (by kernel_rfl) rfl #[.int .i64 a2, .int .i64 6] rfl (by (try simp only [List.map_toArray, List.map_cons, List.map_nil]); first | done | rfl | (simp only [List.length_drop, List.length_take]; rfl)) ?_; (with_reducible refine (busbarlaw0_Within.calls a2 6 t232 _ A14.out).mono ?_); rintro e w' ⟨rfl, ⟨nd, rfl⟩⟩; refine ⟨_, rfl, ?_⟩))
      go_meet
      case rel => exact ⟨_, (t232), (by first | rfl | (simp; done) | (simp [*]; done)), H', ⟨by have := HJ4.out; first | omega | exact Nat.le_refl _⟩, ⟨by repeat (first | (with_reducible first | exact HB.out | apply below_alloc | apply pw_below_drewN | apply below_drew1) | exact HB.out)⟩⟩
     ·
      replace c13 := Bool.eq_false_iff.mpr c13
      subst c13
      have H1 : (busbarlaw14_GroupValues.j1 kj4 l0 a1 a2) = some r := by rw [if_neg (show ¬ (false = true) by decide)] at H; exact H
      clear H
      have H := H1
      clear H1
      have H' := Aside0.mk H
      clear H
      go_wp2
      go_meet
      case rel => exact ⟨_, (a2), (by first | rfl | (simp; done) | (simp [*]; done)), H', ⟨by have := HJ4.out; first | omega | exact Nat.le_refl _⟩, ⟨by repeat (first | (with_reducible first | exact HB.out | apply below_alloc | apply pw_below_drewN | apply below_drew1) | exact HB.out)⟩⟩
    case rest =>
     clear HC12
     try clear c1
     try clear p2
     try clear c6
     try clear c6b0
     try clear c6b1
     try clear c9
     try clear c10
     try clear c12
     try clear c13
     try clear c14
     try clear p2
     obtain ⟨kq, x2_11, rfl, HA, HJ11, HB⟩ := hcut
     cases kq with
     | zero => exact absurd HA.out (by simp [busbarlaw14_GroupValues.j1])
     | succ kj11 =>
      have H := HA.out
      clear HA
      simp only [busbarlaw14_GroupValues.j1] at H
      replace H := Option.bind_eq_some_iff.mp H
      obtain ⟨t233, A150, H⟩ := H
      replace H : ((group_Value.f kj11 t233).bind fun bt236 => ((busbarref12_Value.f kj11 l0).bind fun bt238 => ((group_Words.f kj11 a1 x2_11).bind fun bt240 => ((busbarref12_Words.f kj11 a1 x2_11).bind fun bt244 => (if bt236.1 = bt238.1 then (if (bt236.2 != bt238.2) = true then (busbarlaw14_GroupValues.j2 kj11 l0 a1 bt236.1 bt236.2 bt240.1 bt240.2 true) else ((busbarlaw0_SameWords.f kj11 bt240.1 bt244.1).bind fun t248 => (if t248 = true then (if (bt240.2 != bt244.2) = true then (busbarlaw14_GroupValues.j2 kj11 l0 a1 bt236.1 bt236.2 bt240.1 bt240.2 true) else ((busbarlaw0_StaysWords.f kj11 t233 l0).bind fun t249 => (busbarlaw14_GroupValues.j2 kj11 l0 a1 bt236.1 bt236.2 bt240.1 bt240.2 (!t249)))) else (busbarlaw14_GroupValues.j2 kj11 l0 a1 bt236.1 bt236.2 bt240.1 bt240.2 true)))) else (busbarlaw14_GroupValues.j2 kj11 l0 a1 bt236.1 bt236.2 bt240.1 bt240.2 true)))))) = some r := H
      have A15 := Aside0.mk A150
      clear A150
      replace H := Option.bind_eq_some_iff.mp H
      obtain ⟨⟨t236, t237⟩, A160, H⟩ := H
      replace H : ((busbarref12_Value.f kj11 l0).bind fun bt238 => ((group_Words.f kj11 a1 x2_11).bind fun bt240 => ((busbarref12_Words.f kj11 a1 x2_11).bind fun bt244 => (if t236 = bt238.1 then (if (t237 != bt238.2) = true then (busbarlaw14_GroupValues.j2 kj11 l0 a1 t236 t237 bt240.1 bt240.2 true) else ((busbarlaw0_SameWords.f kj11 bt240.1 bt244.1).bind fun t248 => (if t248 = true then (if (bt240.2 != bt244.2) = true then (busbarlaw14_GroupValues.j2 kj11 l0 a1 t236 t237 bt240.1 bt240.2 true) else ((busbarlaw0_StaysWords.f kj11 t233 l0).bind fun t249 => (busbarlaw14_GroupValues.j2 kj11 l0 a1 t236 t237 bt240.1 bt240.2 (!t249)))) else (busbarlaw14_GroupValues.j2 kj11 l0 a1 t236 t237 bt240.1 bt240.2 true)))) else (busbarlaw14_GroupValues.j2 kj11 l0 a1 t236 t237 bt240.1 bt240.2 true))))) = some r := H
      have A16 := Aside0.mk A160
      clear A160
      replace H := Option.bind_eq_some_iff.mp H
      obtain ⟨⟨t238, t239⟩, A170, H⟩ := H
      replace H : ((group_Words.f kj11 a1 x2_11).bind fun bt240 => ((busbarref12_Words.f kj11 a1 x2_11).bind fun bt244 => (if t236 = t238 then (if (t237 != t239) = true then (busbarlaw14_GroupValues.j2 kj11 l0 a1 t236 t237 bt240.1 bt240.2 true) else ((busbarlaw0_SameWords.f kj11 bt240.1 bt244.1).bind fun t248 => (if t248 = true then (if (bt240.2 != bt244.2) = true then (busbarlaw14_GroupValues.j2 kj11 l0 a1 t236 t237 bt240.1 bt240.2 true) else ((busbarlaw0_StaysWords.f kj11 t233 l0).bind fun t249 => (busbarlaw14_GroupValues.j2 kj11 l0 a1 t236 t237 bt240.1 bt240.2 (!t249)))) else (busbarlaw14_GroupValues.j2 kj11 l0 a1 t236 t237 bt240.1 bt240.2 true)))) else (busbarlaw14_GroupValues.j2 kj11 l0 a1 t236 t237 bt240.1 bt240.2 true)))) = some r := H
      have A17 := Aside0.mk A170
      clear A170
      replace H := Option.bind_eq_some_iff.mp H
      obtain ⟨⟨t240, t241⟩, A180, H⟩ := H
      replace H : ((busbarref12_Words.f kj11 a1 x2_11).bind fun bt244 => (if t236 = t238 then (if (t237 != t239) = true then (busbarlaw14_GroupValues.j2 kj11 l0 a1 t236 t237 t240 t241 true) else ((busbarlaw0_SameWords.f kj11 t240 bt244.1).bind fun t248 => (if t248 = true then (if (t241 != bt244.2) = true then (busbarlaw14_GroupValues.j2 kj11 l0 a1 t236 t237 t240 t241 true) else ((busbarlaw0_StaysWords.f kj11 t233 l0).bind fun t249 => (busbarlaw14_GroupValues.j2 kj11 l0 a1 t236 t237 t240 t241 (!t249)))) else (busbarlaw14_GroupValues.j2 kj11 l0 a1 t236 t237 t240 t241 true)))) else (busbarlaw14_GroupValues.j2 kj11 l0 a1 t236 t237 t240 t241 true))) = some r := H
      have A18 := Aside0.mk A180
      clear A180
      replace H := Option.bind_eq_some_iff.mp H
      obtain ⟨⟨t244, t245⟩, A190, H⟩ := H
      replace H : (if t236 = t238 then (if (t237 != t239) = true then (busbarlaw14_GroupValues.j2 kj11 l0 a1 t236 t237 t240 t241 true) else ((busbarlaw0_SameWords.f kj11 t240 t244).bind fun t248 => (if t248 = true then (if (t241 != t245) = true then (busbarlaw14_GroupValues.j2 kj11 l0 a1 t236 t237 t240 t241 true) else ((busbarlaw0_StaysWords.f kj11 t233 l0).bind fun t249 => (busbarlaw14_GroupValues.j2 kj11 l0 a1 t236 t237 t240 t241 (!t249)))) else (busbarlaw14_GroupValues.j2 kj11 l0 a1 t236 t237 t240 t241 true)))) else (busbarlaw14_GroupValues.j2 kj11 l0 a1 t236 t237 t240 t241 true)) = some r := H
      have A19 := Aside0.mk A190
      clear A190
      have HC20 := Aside0.mk H
      clear H
      go_upto_region 10 with (first | ((with_reducible refine gate_callee (f := 31) rfl ?_); refine goesL_ (some 34) rfl rfl Try.func31 (by kernel_rfl) rfl #[.slice A0 l0.length c0] rfl (by (try simp only [List.map_toArray, List.map_cons, List.map_nil]); first | done | rfl | (simp only [List.length_drop, List.length_take]; rfl)) ?_; (with_reducible refine (busbarlaw0_LentWords.calls kj11 _ _ l0 t233 _ ?side1 ?side2 A15.out).mono ?_); (case side1 => repeat (first | exact (Kd.C_below HR0.out HB.out) | (with_reducible refine Kd.C_alloc ?_ _) | (with_reducible refine Kd.C_drewN ?_ _) | (with_reducible refine Kd.C_drew ?_))); (case side2 => exact HC0.out); rintro e w21 ⟨v234, rfl, ho0, hb⟩; refine ⟨_, rfl, ?_⟩; have n0_ := Aside0.mk (Kd.L_lower ho0 (below_size (by repeat (first | (with_reducible first | exact HB.out | apply below_alloc | apply pw_below_drewN | apply below_drew1) | exact HB.out)))); have n1_ := Aside0.mk (below_step (by repeat (first | (with_reducible first | exact HB.out | apply below_alloc | apply pw_below_drewN | apply below_drew1) | exact HB.out)) hb); clear HB; have HO235 := n0_; have HB := n1_; clear n0_ n1_; (try clear hb); (try clear hb2); (try clear hk); (try clear hi); (try clear ho0); obtain ⟨Ao22, co22, eo22, _⟩ := Kd.L_slice HO235.out; subst eo22) | ((with_reducible refine gate_callee (f := 32) rfl ?_); refine goesL_ (some 37) rfl rfl Try.func32 (by kernel_rfl) rfl #[.slice Ao22 t233.length co22] rfl (by (try simp only [List.map_toArray, List.map_cons, List.map_nil]); first | done | rfl | (simp only [List.length_drop, List.length_take]; rfl)) ?_; (with_reducible refine (group_Value.calls kj11 _ _ t233 t236 t237 _ ?side1 ?side2 A16.out).mono ?_); (case side1 => repeat (first | exact (Kd.L_reads' HO235.out).2.2 | (with_reducible refine Kd.C_alloc ?_ _) | (with_reducible refine Kd.C_drewN ?_ _) | (with_reducible refine Kd.C_drew ?_))); (case side2 => exact (Kd.L_reads' HO235.out).2.1); rintro e w' ⟨rfl, ⟨nd, rfl⟩⟩; refine ⟨_, rfl, ?_⟩) | ((with_reducible refine gate_callee (f := 33) rfl ?_); refine goesL_ (some 42) rfl rfl Try.func33 (by kernel_rfl) rfl #[.slice A0 l0.length c0] rfl (by (try simp only [List.map_toArray, List.map_cons, List.map_nil]); first | done | rfl | (simp only [List.length_drop, List.length_take]; rfl)) ?_; (with_reducible refine (busbarref12_Value.calls kj11 _ _ l0 t238 t239 _ ?side1 ?side2 A17.out).mono ?_); (case side1 => repeat (first | exact (Kd.C_below HR0.out (by repeat (first | (with_reducible first | exact HB.out | apply below_alloc | apply pw_below_drewN | apply below_drew1) | exact HB.out))) | (with_reducible refine Kd.C_alloc ?_ _) | (with_reducible refine Kd.C_drewN ?_ _) | (with_reducible refine Kd.C_drew ?_))); (case side2 => exact HC0.out); rintro e w' ⟨rfl, ⟨nd, rfl⟩⟩; refine ⟨_, rfl, ?_⟩) | ((with_reducible refine gate_callee (f := 34) rfl ?_); refine goesL_ (some 48) rfl rfl Try.func34 (by kernel_rfl) rfl #[.int .u64 a1, .int .i64 x2_11] rfl (by (try simp only [List.map_toArray, List.map_cons, List.map_nil]); first | done | rfl | (simp only [List.length_drop, List.length_take]; rfl)) ?_; (with_reducible refine (group_Words.calls kj11 a1 x2_11 t240 t241 _ A18.out).mono ?_); rintro e w23 ⟨v242, rfl, ho0, hb⟩; refine ⟨_, rfl, ?_⟩; have n0_ := Aside0.mk (Kd.L_elder' (by (with_reducible repeat (first | apply Kd.L_alloc | apply Kd.L_drewN | apply Kd.L_drew)); exact HO235.out) (Kd.R_base ho0) hb); have n1_ := Aside0.mk (Kd.R_lower (Kd.R_new' ho0 (Kd.L_lt (by (with_reducible repeat (first | apply Kd.L_alloc | apply Kd.L_drewN | apply Kd.L_drew)); exact HO235.out))) (below_size (by repeat (first | (with_reducible first | exact HB.out | apply below_alloc | apply pw_below_drewN | apply below_drew1) | exact HB.out)))); have n2_ := Aside0.mk (below_step (by repeat (first | (with_reducible first | exact HB.out | apply below_alloc | apply pw_below_drewN | apply below_drew1) | exact HB.out)) hb); clear HO235; clear HB; have HO235 := n0_; have HO243 := n1_; have HB := n2_; clear n0_ n1_ n2_; (try clear hb); (try clear hb2); (try clear hk); (try clear hi); (try clear ho0)) | ((with_reducible refine gate_callee (f := 35) rfl ?_); refine goesL_ (some 54) rfl rfl Try.func35 (by kernel_rfl) rfl #[.int .u64 a1, .int .i64 x2_11] rfl (by (try simp only [List.map_toArray, List.map_cons, List.map_nil]); first | done | rfl | (simp only [List.length_drop, List.length_take]; rfl)) ?_; (with_reducible refine (busbarref12_Words.calls kj11 a1 x2_11 t244 t245 _ A19.out).mono ?_); rintro e w24 ⟨v246, rfl, ho0, hb⟩; refine ⟨_, rfl, ?_⟩; have n0_ := Aside0.mk (Kd.L_elder' (by (with_reducible repeat (first | apply Kd.L_alloc | apply Kd.L_drewN | apply Kd.L_drew)); exact HO235.out) (Kd.R_base ho0) hb); have n1_ := Aside0.mk (Kd.R_elder' (by (with_reducible repeat (first | apply Kd.R_alloc | apply Kd.R_drewN | apply Kd.R_drew)); exact HO243.out) (Kd.R_base ho0) hb); have n2_ := Aside0.mk (Kd.R_lower (Kd.R_new' (Kd.R_new' ho0 (Kd.L_lt (by (with_reducible repeat (first | apply Kd.L_alloc | apply Kd.L_drewN | apply Kd.L_drew)); exact HO235.out))) (Kd.R_lt (by (with_reducible repeat (first | apply Kd.R_alloc | apply Kd.R_drewN | apply Kd.R_drew)); exact HO243.out))) (below_size (by repeat (first | (with_reducible first | exact HB.out | apply below_alloc | apply pw_below_drewN | apply below_drew1) | exact HB.out)))); have n3_ := Aside0.mk (below_step (by repeat (first | (with_reducible first | exact HB.out | apply below_alloc | apply pw_below_drewN | apply below_drew1) | exact HB.out)) hb); clear HO235; clear HO243; clear HB; have HO235 := n0_; have HO243 := n1_; have HO247 := n2_; have HB := n3_; clear n0_ n1_ n2_ n3_; (try clear hb); (try clear hb2); (try clear hk); (try clear hi); (try clear ho0)))
      (try simp only [Act.put, List.setIfInBounds_toArray, List.set_cons_zero, List.set_cons_succ])
      go_cut [81] (fun v81 wc => ∃ (kq : Nat) (x81_19 : Bool), v81 = .bool x81_19 ∧ Aside0 (busbarlaw14_GroupValues.j2 kq l0 a1 t236 t237 t240 t241 x81_19 = some r) ∧ Aside0 (kq ≤ kj11) ∧ Aside0 (Kd.R (Kd.int .u16) 66 wc w.heap.size (fun _ => True) v242 t240) ∧ Aside0 (Below w.heap.size w wc))
      case first =>
       have H := HC20.out
       clear HC20
       by_cases c25 : t236 = t238
       ·
        rw [if_pos c25] at H
        have c25b0 : (t236 == t238) = true := beq_iff_eq.mpr c25
        have c25b1 : (t236 != t238) = false := bne_eq_false_iff_eq.mpr c25
        clear c25
        (first | rw [c25b0] | (simp only [i64_w, i32_w]; rw [c25b0]) | skip)
        by_cases c26 : (t237 != t239) = true
        ·
         rw [if_pos c26] at H
         have c26b0 : (t237 != t239) = true := c26
         (try (have c26b1 : decide (t237 = t239) = false := by simpa using c26))
         (try (have c26b2 : (t237 == t239) = false := by simpa using c26))
         (try (have c26b3 : ¬ (t237 = t239) := by simpa using c26))
         clear c26
         have H' := Aside0.mk H
         clear H
         go_wp2
         go_meet
         case rel => exact ⟨_, (true), (by first | rfl | (simp; done) | (simp [*]; done)), H', ⟨by have := HJ4.out; have := HJ11.out; first | omega | exact Nat.le_refl _⟩, ⟨by (with_reducible repeat (first | apply Kd.R_alloc | apply Kd.R_drewN | apply Kd.R_drew)); exact Kd.R_mono HO243.out (fun _ hk => trivial)⟩, ⟨by repeat (first | (with_reducible first | exact HB.out | apply below_alloc | apply pw_below_drewN | apply below_drew1) | exact HB.out)⟩⟩
        ·
         rw [if_neg c26] at H
         have c26b0 : (t237 != t239) = false := by simpa using c26
         (try (have c26b1 : decide (t237 = t239) = true := by simpa using c26))
         (try (have c26b2 : (t237 == t239) = true := by simpa using c26))
         clear c26
         replace H := Option.bind_eq_some_iff.mp H
         obtain ⟨t248, A270, H⟩ := H
         replace H : (if t248 = true then (if (t241 != t245) = true then (busbarlaw14_GroupValues.j2 kj11 l0 a1 t236 t237 t240 t241 true) else ((busbarlaw0_StaysWords.f kj11 t233 l0).bind fun t249 => (busbarlaw14_GroupValues.j2 kj11 l0 a1 t236 t237 t240 t241 (!t249)))) else (busbarlaw14_GroupValues.j2 kj11 l0 a1 t236 t237 t240 t241 true)) = some r := H
         have A27 := Aside0.mk A270
         clear A270
         by_cases c28 : t248 = true
         ·
          subst c28
          have H1 : (if (t241 != t245) = true then (busbarlaw14_GroupValues.j2 kj11 l0 a1 t236 t237 t240 t241 true) else ((busbarlaw0_StaysWords.f kj11 t233 l0).bind fun t249 => (busbarlaw14_GroupValues.j2 kj11 l0 a1 t236 t237 t240 t241 (!t249)))) = some r := by rw [if_pos rfl] at H; exact H
          clear H
          have H := H1
          clear H1
          by_cases c29 : (t241 != t245) = true
          ·
           rw [if_pos c29] at H
           have c29b0 : (t241 != t245) = true := c29
           (try (have c29b1 : decide (t241 = t245) = false := by simpa using c29))
           (try (have c29b2 : (t241 == t245) = false := by simpa using c29))
           (try (have c29b3 : ¬ (t241 = t245) := by simpa using c29))
           clear c29
           have H' := Aside0.mk H
           clear H
           obtain ⟨Ao30, co30, eo30⟩ := Kd.R_slice HO243.out
           subst eo30
           obtain ⟨Ao31, co31, eo31⟩ := Kd.R_slice HO247.out
           subst eo31
           go_wp2_with (first | (go_at_call 36; (with_reducible refine (busbarlaw0_SameWords.calls kj11 _ _ t240 _ _ t244 true _ ?side1 ?side2 ?side3 ?side4 A27.out).mono ?_); (case side1 => repeat (first | exact (Kd.R_reads' HO243.out).2.2 | (with_reducible refine Kd.C_alloc ?_ _) | (with_reducible refine Kd.C_drewN ?_ _) | (with_reducible refine Kd.C_drew ?_))); (case side2 => exact (Kd.R_reads' HO243.out).2.1); (case side3 => repeat (first | exact (Kd.R_reads' HO247.out).2.2 | (with_reducible refine Kd.C_alloc ?_ _) | (with_reducible refine Kd.C_drewN ?_ _) | (with_reducible refine Kd.C_drew ?_))); (case side4 => exact (Kd.R_reads' HO247.out).2.1); rintro e w' ⟨rfl, ⟨nd, rfl⟩⟩))
           go_meet
           case rel => exact ⟨_, (true), (by first | rfl | (simp; done) | (simp [*]; done)), H', ⟨by have := HJ4.out; have := HJ11.out; first | omega | exact Nat.le_refl _⟩, ⟨by (with_reducible repeat (first | apply Kd.R_alloc | apply Kd.R_drewN | apply Kd.R_drew)); exact Kd.R_mono HO243.out (fun _ hk => trivial)⟩, ⟨by repeat (first | (with_reducible first | exact HB.out | apply below_alloc | apply pw_below_drewN | apply below_drew1) | exact HB.out)⟩⟩
          ·
           rw [if_neg c29] at H
           have c29b0 : (t241 != t245) = false := by simpa using c29
           (try (have c29b1 : decide (t241 = t245) = true := by simpa using c29))
           (try (have c29b2 : (t241 == t245) = true := by simpa using c29))
           clear c29
           replace H := Option.bind_eq_some_iff.mp H
           obtain ⟨t249, A320, H⟩ := H
           replace H : (busbarlaw14_GroupValues.j2 kj11 l0 a1 t236 t237 t240 t241 (!t249)) = some r := H
           have A32 := Aside0.mk A320
           clear A320
           have H' := Aside0.mk H
           clear H
           obtain ⟨Ao33, co33, eo33⟩ := Kd.R_slice HO243.out
           subst eo33
           obtain ⟨Ao34, co34, eo34⟩ := Kd.R_slice HO247.out
           subst eo34
           go_wp2_with (first | (go_at_call 36; (with_reducible refine (busbarlaw0_SameWords.calls kj11 _ _ t240 _ _ t244 true _ ?side1 ?side2 ?side3 ?side4 A27.out).mono ?_); (case side1 => repeat (first | exact (Kd.R_reads' HO243.out).2.2 | (with_reducible refine Kd.C_alloc ?_ _) | (with_reducible refine Kd.C_drewN ?_ _) | (with_reducible refine Kd.C_drew ?_))); (case side2 => exact (Kd.R_reads' HO243.out).2.1); (case side3 => repeat (first | exact (Kd.R_reads' HO247.out).2.2 | (with_reducible refine Kd.C_alloc ?_ _) | (with_reducible refine Kd.C_drewN ?_ _) | (with_reducible refine Kd.C_drew ?_))); (case side4 => exact (Kd.R_reads' HO247.out).2.1); rintro e w' ⟨rfl, ⟨nd, rfl⟩⟩) | (go_at_call 37; (with_reducible refine (busbarlaw0_StaysWords.calls kj11 _ _ t233 _ _ l0 t249 _ ?side1 ?side2 ?side3 ?side4 A32.out).mono ?_); (case side1 => repeat (first | exact (Kd.L_reads3 HO235.out).2.2 | (with_reducible refine Kd.C_alloc ?_ _) | (with_reducible refine Kd.C_drewN ?_ _) | (with_reducible refine Kd.C_drew ?_))); (case side2 => exact (Kd.L_room3 HO235.out)); (case side3 => repeat (first | exact (Kd.C_below HR0.out (by repeat (first | (with_reducible first | exact HB.out | apply below_alloc | apply pw_below_drewN | apply below_drew1) | exact HB.out))) | (with_reducible refine Kd.C_alloc ?_ _) | (with_reducible refine Kd.C_drewN ?_ _) | (with_reducible refine Kd.C_drew ?_))); (case side4 => exact HC0.out); rintro e w' ⟨rfl, ⟨nd, rfl⟩⟩))
           go_meet
           case rel => exact ⟨_, (!t249), (by first | rfl | (simp; done) | (simp [*]; done)), H', ⟨by have := HJ4.out; have := HJ11.out; first | omega | exact Nat.le_refl _⟩, ⟨by (with_reducible repeat (first | apply Kd.R_alloc | apply Kd.R_drewN | apply Kd.R_drew)); exact Kd.R_mono HO243.out (fun _ hk => trivial)⟩, ⟨by repeat (first | (with_reducible first | exact HB.out | apply below_alloc | apply pw_below_drewN | apply below_drew1) | exact HB.out)⟩⟩
         ·
          replace c28 := Bool.eq_false_iff.mpr c28
          subst c28
          have H1 : (busbarlaw14_GroupValues.j2 kj11 l0 a1 t236 t237 t240 t241 true) = some r := by rw [if_neg (show ¬ (false = true) by decide)] at H; exact H
          clear H
          have H := H1
          clear H1
          have H' := Aside0.mk H
          clear H
          obtain ⟨Ao35, co35, eo35⟩ := Kd.R_slice HO243.out
          subst eo35
          obtain ⟨Ao36, co36, eo36⟩ := Kd.R_slice HO247.out
          subst eo36
          go_wp2_with (first | (go_at_call 36; (with_reducible refine (busbarlaw0_SameWords.calls kj11 _ _ t240 _ _ t244 false _ ?side1 ?side2 ?side3 ?side4 A27.out).mono ?_); (case side1 => repeat (first | exact (Kd.R_reads' HO243.out).2.2 | (with_reducible refine Kd.C_alloc ?_ _) | (with_reducible refine Kd.C_drewN ?_ _) | (with_reducible refine Kd.C_drew ?_))); (case side2 => exact (Kd.R_reads' HO243.out).2.1); (case side3 => repeat (first | exact (Kd.R_reads' HO247.out).2.2 | (with_reducible refine Kd.C_alloc ?_ _) | (with_reducible refine Kd.C_drewN ?_ _) | (with_reducible refine Kd.C_drew ?_))); (case side4 => exact (Kd.R_reads' HO247.out).2.1); rintro e w' ⟨rfl, ⟨nd, rfl⟩⟩))
          go_meet
          case rel => exact ⟨_, (true), (by first | rfl | (simp; done) | (simp [*]; done)), H', ⟨by have := HJ4.out; have := HJ11.out; first | omega | exact Nat.le_refl _⟩, ⟨by (with_reducible repeat (first | apply Kd.R_alloc | apply Kd.R_drewN | apply Kd.R_drew)); exact Kd.R_mono HO243.out (fun _ hk => trivial)⟩, ⟨by repeat (first | (with_reducible first | exact HB.out | apply below_alloc | apply pw_below_drewN | apply below_drew1) | exact HB.out)⟩⟩
       ·
        rw [if_neg c25] at H
        have c25b0 : (t236 == t238) = false := beq_eq_false_iff_ne.mpr c25
        have c25b1 : (t236 != t238) = true := bne_iff_ne.mpr c25
        (first | rw [c25b0] | (simp only [i64_w, i32_w]; rw [c25b0]) | skip)
        have H' := Aside0.mk H
        clear H
        go_wp2
        go_meet
        case rel => exact ⟨_, (true), (by first | rfl | (simp; done) | (simp [*]; done)), H', ⟨by have := HJ4.out; have := HJ11.out; first | omega | exact Nat.le_refl _⟩, ⟨by (with_reducible repeat (first | apply Kd.R_alloc | apply Kd.R_drewN | apply Kd.R_drew)); exact Kd.R_mono HO243.out (fun _ hk => trivial)⟩, ⟨by repeat (first | (with_reducible first | exact HB.out | apply below_alloc | apply pw_below_drewN | apply below_drew1) | exact HB.out)⟩⟩
      case rest =>
       clear HC20
       try clear c1
       try clear c2
       try clear p2
       try clear c3
       try clear c6
       try clear c6b0
       try clear c6b1
       try clear c9
       try clear c10
       try clear c12
       try clear c13
       try clear c14
       try clear c25
       try clear c25b0
       try clear c25b1
       try clear c26
       try clear c26b0
       try clear c26b1
       try clear c26b2
       try clear c28
       try clear c29
       try clear c29b0
       try clear c29b1
       try clear c29b2
       try clear c31
       try clear c32
       try clear c33
       try clear c34
       try clear c35
       try clear p2
       obtain ⟨kq, x81_19, rfl, HA, HJ19, HO_14, HB⟩ := hcut
       cases kq with
       | zero => exact absurd HA.out (by simp [busbarlaw14_GroupValues.j2])
       | succ kj19 =>
        have H := HA.out
        clear HA
        simp only [busbarlaw14_GroupValues.j2] at H
        by_cases c37 : x81_19 = true
        ·
         subst c37
         have H1 : (some false) = some r := by rw [if_pos rfl] at H; exact H
         clear H
         have H := H1
         clear H1
         obtain rfl := Option.some.inj H
         go_wp2
         go_ret
         exact ⟨by first | rfl | (simp [errW_none, errW_some] <;> rfl) | (simp [*, errW_none, errW_some] <;> rfl), by repeat (first | (with_reducible first | exact HB.out | apply below_alloc | apply pw_below_drewN | apply below_drew1) | exact HB.out)⟩
        ·
         replace c37 := Bool.eq_false_iff.mpr c37
         subst c37
         have H1 : (if t241 = true then ((group_Value.f kj19 t240).bind fun bt250 => (if bt250.2 = true then (if bt250.1 = a1 then (busbarlaw14_GroupValues.j3 kj19 l0 t236 t237) else (some false)) else (some false))) else (busbarlaw14_GroupValues.j3 kj19 l0 t236 t237)) = some r := by rw [if_neg (show ¬ (false = true) by decide)] at H; exact H
         clear H
         have H := H1
         clear H1
         have HC38 := Aside0.mk H
         clear H
         go_upto_if 82 with (fail)
         go_cut [] (fun wc => ∃ (kq : Nat), Aside0 (busbarlaw14_GroupValues.j3 kq l0 t236 t237 = some r) ∧ Aside0 (kq ≤ kj19) ∧ Aside0 (Below w.heap.size w wc))
         case first =>
          have H := HC38.out
          clear HC38
          by_cases c39 : t241 = true
          ·
           subst c39
           have H1 : ((group_Value.f kj19 t240).bind fun bt250 => (if bt250.2 = true then (if bt250.1 = a1 then (busbarlaw14_GroupValues.j3 kj19 l0 t236 t237) else (some false)) else (some false))) = some r := by rw [if_pos rfl] at H; exact H
           clear H
           have H := H1
           clear H1
           replace H := Option.bind_eq_some_iff.mp H
           obtain ⟨⟨t250, t251⟩, A400, H⟩ := H
           replace H : (if t251 = true then (if t250 = a1 then (busbarlaw14_GroupValues.j3 kj19 l0 t236 t237) else (some false)) else (some false)) = some r := H
           have A40 := Aside0.mk A400
           clear A400
           by_cases c41 : t251 = true
           ·
            subst c41
            have H1 : (if t250 = a1 then (busbarlaw14_GroupValues.j3 kj19 l0 t236 t237) else (some false)) = some r := by rw [if_pos rfl] at H; exact H
            clear H
            have H := H1
            clear H1
            by_cases c42 : t250 = a1
            ·
             rw [if_pos c42] at H
             have c42b0 : (t250 == a1) = true := beq_iff_eq.mpr c42
             have c42b1 : (t250 != a1) = false := bne_eq_false_iff_eq.mpr c42
             clear c42
             (first | rw [c42b0] | (simp only [i64_w, i32_w]; rw [c42b0]) | skip)
             have H' := Aside0.mk H
             clear H
             obtain ⟨Ao43, co43, eo43⟩ := Kd.R_slice HO_14.out
             subst eo43
             go_wp2_with (first | ((with_reducible refine gate_callee (f := 32) rfl ?_); refine goesL_ (some 85) rfl rfl Try.func32 (by kernel_rfl) rfl #[.slice Ao43 t240.length co43] rfl (by (try simp only [List.map_toArray, List.map_cons, List.map_nil]); first | done | rfl | (simp only [List.length_drop, List.length_take]; rfl)) ?_; (with_reducible refine (group_Value.calls kj19 _ _ t240 t250 true _ ?side1 ?side2 A40.out).mono ?_); (case side1 => repeat (first | exact (Kd.R_reads' HO_14.out).2.2 | (with_reducible refine Kd.C_alloc ?_ _) | (with_reducible refine Kd.C_drewN ?_ _) | (with_reducible refine Kd.C_drew ?_))); (case side2 => exact (Kd.R_reads' HO_14.out).2.1); rintro e w' ⟨rfl, ⟨nd, rfl⟩⟩; refine ⟨_, rfl, ?_⟩))
             go_meet
             case rel => exact ⟨_, H', ⟨by have := HJ4.out; have := HJ11.out; have := HJ19.out; first | omega | exact Nat.le_refl _⟩, ⟨by repeat (first | (with_reducible first | exact HB.out | apply below_alloc | apply pw_below_drewN | apply below_drew1) | exact HB.out)⟩⟩
            ·
             rw [if_neg c42] at H
             have c42b0 : (t250 == a1) = false := beq_eq_false_iff_ne.mpr c42
             have c42b1 : (t250 != a1) = true := bne_iff_ne.mpr c42
             (first | rw [c42b0] | (simp only [i64_w, i32_w]; rw [c42b0]) | skip)
             obtain rfl := Option.some.inj H
             obtain ⟨Ao44, co44, eo44⟩ := Kd.R_slice HO_14.out
             subst eo44
             go_wp2_with (first | ((with_reducible refine gate_callee (f := 32) rfl ?_); refine goesL_ (some 85) rfl rfl Try.func32 (by kernel_rfl) rfl #[.slice Ao44 t240.length co44] rfl (by (try simp only [List.map_toArray, List.map_cons, List.map_nil]); first | done | rfl | (simp only [List.length_drop, List.length_take]; rfl)) ?_; (with_reducible refine (group_Value.calls kj19 _ _ t240 t250 true _ ?side1 ?side2 A40.out).mono ?_); (case side1 => repeat (first | exact (Kd.R_reads' HO_14.out).2.2 | (with_reducible refine Kd.C_alloc ?_ _) | (with_reducible refine Kd.C_drewN ?_ _) | (with_reducible refine Kd.C_drew ?_))); (case side2 => exact (Kd.R_reads' HO_14.out).2.1); rintro e w' ⟨rfl, ⟨nd, rfl⟩⟩; refine ⟨_, rfl, ?_⟩))
             go_ret
             exact ⟨by first | rfl | (simp [errW_none, errW_some] <;> rfl) | (simp [*, errW_none, errW_some] <;> rfl), by repeat (first | (with_reducible first | exact HB.out | apply below_alloc | apply pw_below_drewN | apply below_drew1) | exact HB.out)⟩
           ·
            replace c41 := Bool.eq_false_iff.mpr c41
            subst c41
            have H1 : (some false) = some r := by rw [if_neg (show ¬ (false = true) by decide)] at H; exact H
            clear H
            have H := H1
            clear H1
            obtain rfl := Option.some.inj H
            obtain ⟨Ao45, co45, eo45⟩ := Kd.R_slice HO_14.out
            subst eo45
            go_wp2_with (first | ((with_reducible refine gate_callee (f := 32) rfl ?_); refine goesL_ (some 85) rfl rfl Try.func32 (by kernel_rfl) rfl #[.slice Ao45 t240.length co45] rfl (by (try simp only [List.map_toArray, List.map_cons, List.map_nil]); first | done | rfl | (simp only [List.length_drop, List.length_take]; rfl)) ?_; (with_reducible refine (group_Value.calls kj19 _ _ t240 t250 false _ ?side1 ?side2 A40.out).mono ?_); (case side1 => repeat (first | exact (Kd.R_reads' HO_14.out).2.2 | (with_reducible refine Kd.C_alloc ?_ _) | (with_reducible refine Kd.C_drewN ?_ _) | (with_reducible refine Kd.C_drew ?_))); (case side2 => exact (Kd.R_reads' HO_14.out).2.1); rintro e w' ⟨rfl, ⟨nd, rfl⟩⟩; refine ⟨_, rfl, ?_⟩))
            go_ret
            exact ⟨by first | rfl | (simp [errW_none, errW_some] <;> rfl) | (simp [*, errW_none, errW_some] <;> rfl), by repeat (first | (with_reducible first | exact HB.out | apply below_alloc | apply pw_below_drewN | apply below_drew1) | exact HB.out)⟩
          ·
           replace c39 := Bool.eq_false_iff.mpr c39
           subst c39
           have H1 : (busbarlaw14_GroupValues.j3 kj19 l0 t236 t237) = some r := by rw [if_neg (show ¬ (false = true) by decide)] at H; exact H
           clear H
           have H := H1
           clear H1
           have H' := Aside0.mk H
           clear H
           go_wp2
           go_meet
           case rel => exact ⟨_, H', ⟨by have := HJ4.out; have := HJ11.out; have := HJ19.out; first | omega | exact Nat.le_refl _⟩, ⟨by repeat (first | (with_reducible first | exact HB.out | apply below_alloc | apply pw_below_drewN | apply below_drew1) | exact HB.out)⟩⟩
         case rest =>
          clear HC38
          try clear c1
          try clear c2
          try clear p2
          try clear c3
          try clear c4
          try clear c6
          try clear c6b0
          try clear c6b1
          try clear c9
          try clear c10
          try clear c12
          try clear c13
          try clear c14
          try clear c25
          try clear c25b0
          try clear c25b1
          try clear c26
          try clear c26b0
          try clear c26b1
          try clear c26b2
          try clear c28
          try clear c29
          try clear c29b0
          try clear c29b1
          try clear c29b2
          try clear c31
          try clear c32
          try clear c33
          try clear c34
          try clear c35
          try clear c37
          try clear c39
          try clear c41
          try clear c42
          try clear c42b0
          try clear c42b1
          try clear p2
          obtain ⟨kq, HA, HJ37, HB⟩ := hcut
          cases kq with
          | zero => exact absurd HA.out (by simp [busbarlaw14_GroupValues.j3])
          | succ kj37 =>
           have H := HA.out
           clear HA
           simp only [busbarlaw14_GroupValues.j3] at H
           by_cases c46 : t237 = true
           ·
            subst c46
            have H1 : ((group_Words.f kj37 t236 (l0.length : Int)).bind fun bt252 => (if bt252.2 = true then ((busbarlaw0_SameWords.f kj37 bt252.1 l0).bind fun t256 => (some t256)) else (some false))) = some r := by rw [if_pos rfl] at H; exact H
            clear H
            have H := H1
            clear H1
            replace H := Option.bind_eq_some_iff.mp H
            obtain ⟨⟨t252, t253⟩, A470, H⟩ := H
            replace H : (if t253 = true then ((busbarlaw0_SameWords.f kj37 t252 l0).bind fun t256 => (some t256)) else (some false)) = some r := H
            have A47 := Aside0.mk A470
            clear A470
            by_cases c48 : t253 = true
            ·
             subst c48
             have H1 : ((busbarlaw0_SameWords.f kj37 t252 l0).bind fun t256 => (some t256)) = some r := by rw [if_pos rfl] at H; exact H
             clear H
             have H := H1
             clear H1
             replace H := Option.bind_eq_some_iff.mp H
             obtain ⟨t256, A490, H⟩ := H
             replace H : (some t256) = some r := H
             have A49 := Aside0.mk A490
             clear A490
             obtain rfl := Option.some.inj H
             go_wp2_with (first | ((with_reducible refine gate_callee (f := 34) rfl ?_); refine goesL_ (some 101) rfl rfl Try.func34 (by kernel_rfl) rfl #[.int .u64 t236, .int .i64 (l0.length : Int)] rfl (by (try simp only [List.map_toArray, List.map_cons, List.map_nil]); first | done | rfl | (simp only [List.length_drop, List.length_take]; rfl)) ?_; (with_reducible refine (group_Words.calls kj37 t236 (l0.length : Int) t252 true _ A47.out).mono ?_); rintro e w50 ⟨v254, rfl, ho0, hb⟩; refine ⟨_, rfl, ?_⟩; have n0_ := Aside0.mk (Kd.R_lower ho0 (below_size (by repeat (first | (with_reducible first | exact HB.out | apply below_alloc | apply pw_below_drewN | apply below_drew1) | exact HB.out)))); have n1_ := Aside0.mk (below_step (by repeat (first | (with_reducible first | exact HB.out | apply below_alloc | apply pw_below_drewN | apply below_drew1) | exact HB.out)) hb); clear HB; have HO255 := n0_; have HB := n1_; clear n0_ n1_; (try clear hb); (try clear hb2); (try clear hk); (try clear hi); (try clear ho0); obtain ⟨Ao51, co51, eo51⟩ := Kd.R_slice HO255.out; subst eo51) | (go_at_call 36; (with_reducible refine (busbarlaw0_SameWords.calls kj37 _ _ t252 _ _ l0 t256 _ ?side1 ?side2 ?side3 ?side4 A49.out).mono ?_); (case side1 => repeat (first | exact (Kd.R_reads' HO255.out).2.2 | (with_reducible refine Kd.C_alloc ?_ _) | (with_reducible refine Kd.C_drewN ?_ _) | (with_reducible refine Kd.C_drew ?_))); (case side2 => exact (Kd.R_reads' HO255.out).2.1); (case side3 => repeat (first | exact (Kd.C_below HR0.out HB.out) | (with_reducible refine Kd.C_alloc ?_ _) | (with_reducible refine Kd.C_drewN ?_ _) | (with_reducible refine Kd.C_drew ?_))); (case side4 => exact HC0.out); rintro e w' ⟨rfl, ⟨nd, rfl⟩⟩))
             go_ret
             exact ⟨by first | rfl | (simp [errW_none, errW_some] <;> rfl) | (simp [*, errW_none, errW_some] <;> rfl), by repeat (first | (with_reducible first | exact HB.out | apply below_alloc | apply pw_below_drewN | apply below_drew1) | exact HB.out)⟩
            ·
             replace c48 := Bool.eq_false_iff.mpr c48
             subst c48
             have H1 : (some false) = some r := by rw [if_neg (show ¬ (false = true) by decide)] at H; exact H
             clear H
             have H := H1
             clear H1
             obtain rfl := Option.some.inj H
             go_wp2_with (first | ((with_reducible refine gate_callee (f := 34) rfl ?_); refine goesL_ (some 101) rfl rfl Try.func34 (by kernel_rfl) rfl #[.int .u64 t236, .int .i64 (l0.length : Int)] rfl (by (try simp only [List.map_toArray, List.map_cons, List.map_nil]); first | done | rfl | (simp only [List.length_drop, List.length_take]; rfl)) ?_; (with_reducible refine (group_Words.calls kj37 t236 (l0.length : Int) t252 false _ A47.out).mono ?_); rintro e w52 ⟨v254, rfl, ho0, hb⟩; refine ⟨_, rfl, ?_⟩; have n0_ := Aside0.mk (Kd.R_lower ho0 (below_size (by repeat (first | (with_reducible first | exact HB.out | apply below_alloc | apply pw_below_drewN | apply below_drew1) | exact HB.out)))); have n1_ := Aside0.mk (below_step (by repeat (first | (with_reducible first | exact HB.out | apply below_alloc | apply pw_below_drewN | apply below_drew1) | exact HB.out)) hb); clear HB; have HO255 := n0_; have HB := n1_; clear n0_ n1_; (try clear hb); (try clear hb2); (try clear hk); (try clear hi); (try clear ho0)))
             go_ret
             exact ⟨by first | rfl | (simp [errW_none, errW_some] <;> rfl) | (simp [*, errW_none, errW_some] <;> rfl), by repeat (first | (with_reducible first | exact HB.out | apply below_alloc | apply pw_below_drewN | apply below_drew1) | exact HB.out)⟩
           ·
            replace c46 := Bool.eq_false_iff.mpr c46
            subst c46
            have H1 : (some true) = some r := by rw [if_neg (show ¬ (false = true) by decide)] at H; exact H
            clear H
            have H := H1
            clear H1
            obtain rfl := Option.some.inj H
            go_wp2
            go_ret
            exact ⟨by first | rfl | (simp [errW_none, errW_some] <;> rfl) | (simp [*, errW_none, errW_some] <;> rfl), by repeat (first | (with_reducible first | exact HB.out | apply below_alloc | apply pw_below_drewN | apply below_drew1) | exact HB.out)⟩

/-- THE ONE PURE STATEMENT of busbarlaw14_GroupValues: yours. -/
def busbarlaw14_GroupValues.Pure : Prop := ∀ (l0 : List Int) (a1 : Int) (a2 : Int) (a3 : Bool), l0.length ≤ maxLen → l0.length * 2 ≤ 140737488351232 → (∀ x ∈ l0, (Lit.int .u16 x).wf = true) → (Lit.int .u64 a1).wf = true → (Lit.int .i64 a2).wf = true → ∃ k, busbarlaw14_GroupValues.f k l0 a1 a2 a3 = some true
theorem busbarlaw14_GroupValues.walk (P : busbarlaw14_GroupValues.Pure) (a0 : Option Addr) (len0 cap0 : Nat) (z0 : List Int) (a1 : Int) (a2 : Int) (a3 : Bool) (w : World) (w0 : (a0 = none ∧ len0 = 0 ∧ cap0 = 0 ∧ z0 = []) ∨ ∃ x, a0 = some x ∧ len0 ≤ cap0 ∧ cap0 ≤ maxLen ∧ z0.length = cap0 ∧ (∀ i, i < z0.length → w.cell? (x.add i) = some (.int .u16 (z0.getD i 0))) ∧ ∀ n ∈ z0, (Lit.int .u16 n).wf = true) (y0 : len0 * 2 ≤ 140737488351232) (w1 : (Lit.int .u64 a1).wf = true) (w2 : (Lit.int .i64 a2).wf = true) :
  Calls Try.prog 10 #[.slice a0 len0 cap0, .int .u64 a1, .int .i64 a2, .bool a3] w fun e w' => e = .returned (.bool true) ∧ Below w.heap.size w w' := by
 obtain ⟨l0, rfl, hr0, hm0, hw0, hc0⟩ := ReadsInt.ofRowC w0
 obtain ⟨k, h⟩ := P l0 a1 a2 a3 hm0 y0 hw0 w1 w2
 refine (busbarlaw14_GroupValues.calls k _ _ l0 a1 a2 a3 true w (Kd.C_of_reads (d := (0 : Int)) (h1 := fun _ => rfl) hr0) hc0 h).mono ?_
 rintro e w' ⟨rfl, hd⟩
 exact ⟨rfl, hd⟩

end Go.Proofs.Ytmbkbpaoiilicaa.PGroupL
