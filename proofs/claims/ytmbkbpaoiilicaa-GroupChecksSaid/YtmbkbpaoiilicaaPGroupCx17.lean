-- written by a program of this session (wip/pp) over the kit's print.py; Lean checks it
import Derived.Test.YtmbkbpaoiilicaaPGroupCx0
import Derived.Test.YtmbkbpaoiilicaaPGroupCx8
import Derived.Test.YtmbkbpaoiilicaaPGroupCx9
import Derived.Test.YtmbkbpaoiilicaaPGroupCx12
import Derived.Test.YtmbkbpaoiilicaaPGroupCx14
import Derived.Test.YtmbkbpaoiilicaaPGroupCx16
namespace Go.Proofs.Ytmbkbpaoiilicaa.PGroupC
open Go.RowKit Go.Proofs.YtmbkbpaoiilicaaW.PrintWords Go.Proofs.YtmbkbpaoiilicaaW.PrintLast Go.Proofs.YtmbkbpaoiilicaaW.PrintMore
attribute [local go_sem] max2_int min2_int max_two min_two max_three min_three max_four min_four plus_setCell_drewN plus_cell_same   -- for this text's walks alone
set_option linter.unusedVariables false
set_option linter.unusedSimpArgs false

/-! ### busbarlaw14_GroupChecks: function 11 -/
mutual
def busbarlaw14_GroupChecks.j0 : Nat → List (S30) → List Int → Int → Int → Bool → Option (Bool)
 | 0, _, _, _, _, _ => none
 | k + 1, x0, x1, x2, x3, x19 => if x19 = true then ((busbarlaw14_awake.f k).bind fun t220 => (some t220)) else ((busbarlaw0_Spans.f k x1).bind fun t221 => ((group_Check.f k x0 t221).bind fun t224 => ((busbarref12_Groups.f k x0 t221).bind fun t225 => (if t224 = t225 then ((busbarlaw14_All.f k x1).bind fun bt226 => ((group_Check.f k bt226.1 bt226.2).bind fun t232 => (if t232 = 0 then ((group_Check.f k bt226.1 t221).bind fun t233 => ((busbarref12_Groups.f k bt226.1 t221).bind fun t234 => (busbarlaw14_GroupChecks.j1 k x2 x3 bt226.1 bt226.2 (t233 != t234)))) else (busbarlaw14_GroupChecks.j1 k x2 x3 bt226.1 bt226.2 true)))) else (some false)))))
def busbarlaw14_GroupChecks.j1 : Nat → Int → Int → List (S30) → List (S32) → Bool → Option (Bool)
 | 0, _, _, _, _, _ => none
 | k + 1, x2, x3, x10, x11, x47 => if x47 = true then (some false) else (if (x10.length : Int) = 0 then (some true) else ((busbarlaw0_Digit.f x2 4 (x10.length : Int)).bind fun t235 => ((busbarlaw0_Within.f x2 4).bind fun t236 => (if t236 = 0 then ((busbarlaw0_Within.f x3 6).bind fun t237 => (if 0 ≤ t235 then (if t235 < (x10.length : Int) then ((some (x10.set (t235 : Int).toNat (⟨wrap64 (t237 - 1), (rd_T30 x10 t235).f1, (rd_T30 x10 t235).f2⟩ : S30) : List (S30))).bind fun y238 => ((group_Check.f k y238 x11).bind fun t239 => ((busbarref12_Groups.f k y238 x11).bind fun t240 => (some (t239 == t240))))) else (none)) else (none))) else (if t236 = 1 then (if 0 ≤ t235 then (if t235 < (x10.length : Int) then ((some (x10.set (t235 : Int).toNat (⟨(rd_T30 x10 t235).f0, x3, (rd_T30 x10 t235).f2⟩ : S30) : List (S30))).bind fun y241 => ((group_Check.f k y241 x11).bind fun t242 => ((busbarref12_Groups.f k y241 x11).bind fun t243 => (some (t242 == t243))))) else (none)) else (none)) else (if t236 = 2 then ((busbarlaw0_Within.f x3 7).bind fun t244 => (if 0 ≤ t235 then (if t235 < (x10.length : Int) then ((some (x10.set (t235 : Int).toNat (⟨(rd_T30 x10 t235).f0, (rd_T30 x10 t235).f1, wrap64 (t244 - 1)⟩ : S30) : List (S30))).bind fun y245 => ((group_Check.f k y245 x11).bind fun t246 => ((busbarref12_Groups.f k y245 x11).bind fun t247 => (some (t246 == t247))))) else (none)) else (none))) else (if t236 = 3 then ((busbarlaw0_Within.f x3 60).bind fun t248 => (if 0 ≤ t235 then (if t235 < (x10.length : Int) then ((some (x10.set (t235 : Int).toNat (⟨(rd_T30 x10 t235).f0, t248, (rd_T30 x10 t235).f2⟩ : S30) : List (S30))).bind fun y249 => ((group_Check.f k y249 x11).bind fun t250 => ((busbarref12_Groups.f k y249 x11).bind fun t251 => (some (t250 == t251))))) else (none)) else (none))) else ((group_Check.f k x10 x11).bind fun t252 => ((busbarref12_Groups.f k x10 x11).bind fun t253 => (some (t252 == t253)))))))))))
end
def busbarlaw14_GroupChecks.f (k : Nat) (l0 : List (S30)) (l1 : List Int) (a2 : Int) (a3 : Int) : Option (Bool) := if (l0.length : Int) > 40 then (busbarlaw14_GroupChecks.j0 k l0 l1 a2 a3 true) else ((busbarlaw14_awake.f k).bind fun t219 => (busbarlaw14_GroupChecks.j0 k l0 l1 a2 a3 (!t219)))
theorem busbarlaw14_GroupChecks.mono_l : ∀ k, (∀ y0 y1 y2 y3 y4, LeO (busbarlaw14_GroupChecks.j0 k y0 y1 y2 y3 y4) (busbarlaw14_GroupChecks.j0 (k + 1) y0 y1 y2 y3 y4)) ∧ (∀ y0 y1 y2 y3 y4, LeO (busbarlaw14_GroupChecks.j1 k y0 y1 y2 y3 y4) (busbarlaw14_GroupChecks.j1 (k + 1) y0 y1 y2 y3 y4))
 | 0 => ⟨fun _ _ _ _ _ r h => by simp [busbarlaw14_GroupChecks.j0] at h, fun _ _ _ _ _ r h => by simp [busbarlaw14_GroupChecks.j1] at h⟩
 | k + 1 => by
  obtain ⟨ih0, ih1⟩ := busbarlaw14_GroupChecks.mono_l k
  refine ⟨?_, ?_⟩
  ·
   intro y0 y1 y2 y3 y4
   unfold busbarlaw14_GroupChecks.j0
   repeat' first
   | (with_reducible exact ih0 _ _ _ _ _)
   | (with_reducible exact ih1 _ _ _ _ _)
   | (with_reducible exact busbarlaw0_Spans.mono _ _)
   | (with_reducible exact busbarlaw14_All.mono _ _)
   | (with_reducible exact busbarlaw14_awake.mono _)
   | (with_reducible exact busbarref12_Groups.mono _ _ _)
   | (with_reducible exact group_Check.mono _ _ _)
   | (with_reducible exact LeO.refl _)
   | (with_reducible exact LeO.none _)
   | (with_reducible refine LeO.ite ?_ ?_)
   | (with_reducible refine LeO.bind ?_ (fun _ => ?_))
   | exact ih0 _ _ _ _ _
   | exact ih1 _ _ _ _ _
   | exact busbarlaw0_Spans.mono _ _
   | exact busbarlaw14_All.mono _ _
   | exact busbarlaw14_awake.mono _
   | exact busbarref12_Groups.mono _ _ _
   | exact group_Check.mono _ _ _
   | exact LeO.none _
   | refine LeO.ite ?_ ?_
   | refine LeO.bind ?_ (fun _ => ?_)
  ·
   intro y0 y1 y2 y3 y4
   unfold busbarlaw14_GroupChecks.j1
   repeat' first
   | (with_reducible exact ih0 _ _ _ _ _)
   | (with_reducible exact ih1 _ _ _ _ _)
   | (with_reducible exact busbarlaw0_Spans.mono _ _)
   | (with_reducible exact busbarlaw14_All.mono _ _)
   | (with_reducible exact busbarlaw14_awake.mono _)
   | (with_reducible exact busbarref12_Groups.mono _ _ _)
   | (with_reducible exact group_Check.mono _ _ _)
   | (with_reducible exact LeO.refl _)
   | (with_reducible exact LeO.none _)
   | (with_reducible refine LeO.ite ?_ ?_)
   | (with_reducible refine LeO.bind ?_ (fun _ => ?_))
   | exact ih0 _ _ _ _ _
   | exact ih1 _ _ _ _ _
   | exact busbarlaw0_Spans.mono _ _
   | exact busbarlaw14_All.mono _ _
   | exact busbarlaw14_awake.mono _
   | exact busbarref12_Groups.mono _ _ _
   | exact group_Check.mono _ _ _
   | exact LeO.none _
   | refine LeO.ite ?_ ?_
   | refine LeO.bind ?_ (fun _ => ?_)
theorem busbarlaw14_GroupChecks.mono : ∀ a0 a1 a2 a3 k, LeO (busbarlaw14_GroupChecks.f k a0 a1 a2 a3) (busbarlaw14_GroupChecks.f (k + 1) a0 a1 a2 a3) := by
 intro a0 a1 a2 a3 k
 obtain ⟨ih0, ih1⟩ := busbarlaw14_GroupChecks.mono_l k
 unfold busbarlaw14_GroupChecks.f
 repeat' first
   | (with_reducible exact ih0 _ _ _ _ _)
   | (with_reducible exact ih1 _ _ _ _ _)
   | (with_reducible exact busbarlaw0_Spans.mono _ _)
   | (with_reducible exact busbarlaw14_All.mono _ _)
   | (with_reducible exact busbarlaw14_awake.mono _)
   | (with_reducible exact busbarref12_Groups.mono _ _ _)
   | (with_reducible exact group_Check.mono _ _ _)
   | (with_reducible exact LeO.refl _)
   | (with_reducible exact LeO.none _)
   | (with_reducible refine LeO.ite ?_ ?_)
   | (with_reducible refine LeO.bind ?_ (fun _ => ?_))
   | exact ih0 _ _ _ _ _
   | exact ih1 _ _ _ _ _
   | exact busbarlaw0_Spans.mono _ _
   | exact busbarlaw14_All.mono _ _
   | exact busbarlaw14_awake.mono _
   | exact busbarref12_Groups.mono _ _ _
   | exact group_Check.mono _ _ _
   | exact LeO.none _
   | refine LeO.ite ?_ ?_
   | refine LeO.bind ?_ (fun _ => ?_)
set_option maxHeartbeats 8000000 in
set_option maxRecDepth 100000 in
theorem busbarlaw14_GroupChecks.calls (k : Nat) (A0 : Option Addr) (c0 : Nat) (l0 : List (S30)) (A1 : Option Addr) (c1 : Nat) (l1 : List Int) (a2 : Int) (a3 : Int) (r : Bool) (w : World) (hr0 : Kd.C k30 w A0 l0.length l0) (hc0 : l0.length ≤ c0) (hr1 : Kd.C (Kd.int .i64) w A1 l1.length l1) (hc1 : l1.length ≤ c1) (h : busbarlaw14_GroupChecks.f k l0 l1 a2 a3 = some r) :
  Calls Try.prog 11 #[.slice A0 l0.length c0, .slice A1 l1.length c1, .int .i64 a2, .int .i64 a3] w fun e w' => e = .returned (.bool r) ∧ Below w.heap.size w w' := by
 have HR0 := Aside0.mk hr0
 have HC0 := Aside0.mk hc0
 clear hr0 hc0
 have HR1 := Aside0.mk hr1
 have HC1 := Aside0.mk hc1
 clear hr1 hc1
 have HB := Aside0.mk (Below.refl w.heap.size w)
 have H : (if (l0.length : Int) > 40 then (busbarlaw14_GroupChecks.j0 k l0 l1 a2 a3 true) else ((busbarlaw14_awake.f k).bind fun t219 => (busbarlaw14_GroupChecks.j0 k l0 l1 a2 a3 (!t219)))) = some r := h
 clear h
 have HC5 := Aside0.mk H
 clear H
 go_enter Try.func11, Try.ntmps11
 go_upto_region 1 with (fail)
 go_cut [19] (fun v19 wc => ∃ (kq : Nat) (x19_4 : Bool), v19 = .bool x19_4 ∧ Aside0 (busbarlaw14_GroupChecks.j0 kq l0 l1 a2 a3 x19_4 = some r) ∧ Aside0 (kq ≤ k) ∧ Aside0 (Below w.heap.size w wc))
 case first =>
  have H := HC5.out
  clear HC5
  by_cases c6 : (l0.length : Int) > 40
  ·
   rw [if_pos c6] at H
   have c6b0 : decide (40 < (l0.length : Int)) = true := decide_eq_true c6
   have c6b1 : decide (40 < l0.length) = true := decide_eq_true (by omega)
   clear c6
   (first | rw [c6b0] | (simp only [i64_w, i32_w]; rw [c6b0]) | skip)
   have H' := Aside0.mk H
   clear H
   go_wp2
   go_meet
   case rel => exact ⟨_, (true), (by first | rfl | (simp; done) | (simp [*]; done)), H', ⟨by first | omega | exact Nat.le_refl _⟩, ⟨by repeat (first | (with_reducible first | exact HB.out | apply below_alloc | apply pw_below_drewN | apply below_drew1) | exact HB.out)⟩⟩
  ·
   rw [if_neg c6] at H
   have c6b0 : decide (40 < (l0.length : Int)) = false := decide_eq_false c6
   have c6b1 : decide (40 < l0.length) = false := decide_eq_false (by omega)
   clear c6
   (first | rw [c6b0] | (simp only [i64_w, i32_w]; rw [c6b0]) | skip)
   replace H := Option.bind_eq_some_iff.mp H
   obtain ⟨t219, A70, H⟩ := H
   replace H : (busbarlaw14_GroupChecks.j0 k l0 l1 a2 a3 (!t219)) = some r := H
   have A7 := Aside0.mk A70
   clear A70
   have H' := Aside0.mk H
   clear H
   go_wp2_with (first | (go_at_call 12; (with_reducible refine (busbarlaw14_awake.calls k  t219 _ A7.out).mono ?_); rintro e w8 ⟨rfl, hb⟩; have n0_ := Aside0.mk (below_step (by repeat (first | (with_reducible first | exact HB.out | apply below_alloc | apply pw_below_drewN | apply below_drew1) | exact HB.out)) hb); clear HB; have HB := n0_; clear n0_; (try clear hb); (try clear hb2); (try clear hk); (try clear hi)))
   go_meet
   case rel => exact ⟨_, (!t219), (by first | rfl | (simp; done) | (simp [*]; done)), H', ⟨by first | omega | exact Nat.le_refl _⟩, ⟨by repeat (first | (with_reducible first | exact HB.out | apply below_alloc | apply pw_below_drewN | apply below_drew1) | exact HB.out)⟩⟩
 case rest =>
  clear HC5
  try clear c1
  try clear p2
  try clear c6
  try clear c6b0
  try clear c6b1
  obtain ⟨kq, x19_4, rfl, HA, HJ4, HB⟩ := hcut
  cases kq with
  | zero => exact absurd HA.out (by simp [busbarlaw14_GroupChecks.j0])
  | succ kj4 =>
   have H := HA.out
   clear HA
   simp only [busbarlaw14_GroupChecks.j0] at H
   by_cases c9 : x19_4 = true
   ·
    subst c9
    have H1 : ((busbarlaw14_awake.f kj4).bind fun t220 => (some t220)) = some r := by rw [if_pos rfl] at H; exact H
    clear H
    have H := H1
    clear H1
    replace H := Option.bind_eq_some_iff.mp H
    obtain ⟨t220, A100, H⟩ := H
    replace H : (some t220) = some r := H
    have A10 := Aside0.mk A100
    clear A100
    obtain rfl := Option.some.inj H
    go_wp2_with (first | ((with_reducible refine gate_callee (f := 12) rfl ?_); refine goesL_ (some 20) rfl rfl Try.func12 (by kernel_rfl) rfl #[] rfl (by (try simp only [List.map_toArray, List.map_cons, List.map_nil]); first | done | rfl | (simp only [List.length_drop, List.length_take]; rfl)) ?_; (with_reducible refine (busbarlaw14_awake.calls kj4  t220 _ A10.out).mono ?_); rintro e w11 ⟨rfl, hb⟩; refine ⟨_, rfl, ?_⟩; have n0_ := Aside0.mk (below_step (by repeat (first | (with_reducible first | exact HB.out | apply below_alloc | apply pw_below_drewN | apply below_drew1) | exact HB.out)) hb); clear HB; have HB := n0_; clear n0_; (try clear hb); (try clear hb2); (try clear hk); (try clear hi)))
    go_ret
    exact ⟨by first | rfl | (simp [errW_none, errW_some] <;> rfl) | (simp [*, errW_none, errW_some] <;> rfl), by repeat (first | (with_reducible first | exact HB.out | apply below_alloc | apply pw_below_drewN | apply below_drew1) | exact HB.out)⟩
   ·
    replace c9 := Bool.eq_false_iff.mpr c9
    subst c9
    have H1 : ((busbarlaw0_Spans.f kj4 l1).bind fun t221 => ((group_Check.f kj4 l0 t221).bind fun t224 => ((busbarref12_Groups.f kj4 l0 t221).bind fun t225 => (if t224 = t225 then ((busbarlaw14_All.f kj4 l1).bind fun bt226 => ((group_Check.f kj4 bt226.1 bt226.2).bind fun t232 => (if t232 = 0 then ((group_Check.f kj4 bt226.1 t221).bind fun t233 => ((busbarref12_Groups.f kj4 bt226.1 t221).bind fun t234 => (busbarlaw14_GroupChecks.j1 kj4 a2 a3 bt226.1 bt226.2 (t233 != t234)))) else (busbarlaw14_GroupChecks.j1 kj4 a2 a3 bt226.1 bt226.2 true)))) else (some false))))) = some r := by rw [if_neg (show ¬ (false = true) by decide)] at H; exact H
    clear H
    have H := H1
    clear H1
    replace H := Option.bind_eq_some_iff.mp H
    obtain ⟨t221, A120, H⟩ := H
    replace H : ((group_Check.f kj4 l0 t221).bind fun t224 => ((busbarref12_Groups.f kj4 l0 t221).bind fun t225 => (if t224 = t225 then ((busbarlaw14_All.f kj4 l1).bind fun bt226 => ((group_Check.f kj4 bt226.1 bt226.2).bind fun t232 => (if t232 = 0 then ((group_Check.f kj4 bt226.1 t221).bind fun t233 => ((busbarref12_Groups.f kj4 bt226.1 t221).bind fun t234 => (busbarlaw14_GroupChecks.j1 kj4 a2 a3 bt226.1 bt226.2 (t233 != t234)))) else (busbarlaw14_GroupChecks.j1 kj4 a2 a3 bt226.1 bt226.2 true)))) else (some false)))) = some r := H
    have A12 := Aside0.mk A120
    clear A120
    replace H := Option.bind_eq_some_iff.mp H
    obtain ⟨t224, A130, H⟩ := H
    replace H : ((busbarref12_Groups.f kj4 l0 t221).bind fun t225 => (if t224 = t225 then ((busbarlaw14_All.f kj4 l1).bind fun bt226 => ((group_Check.f kj4 bt226.1 bt226.2).bind fun t232 => (if t232 = 0 then ((group_Check.f kj4 bt226.1 t221).bind fun t233 => ((busbarref12_Groups.f kj4 bt226.1 t221).bind fun t234 => (busbarlaw14_GroupChecks.j1 kj4 a2 a3 bt226.1 bt226.2 (t233 != t234)))) else (busbarlaw14_GroupChecks.j1 kj4 a2 a3 bt226.1 bt226.2 true)))) else (some false))) = some r := H
    have A13 := Aside0.mk A130
    clear A130
    replace H := Option.bind_eq_some_iff.mp H
    obtain ⟨t225, A140, H⟩ := H
    replace H : (if t224 = t225 then ((busbarlaw14_All.f kj4 l1).bind fun bt226 => ((group_Check.f kj4 bt226.1 bt226.2).bind fun t232 => (if t232 = 0 then ((group_Check.f kj4 bt226.1 t221).bind fun t233 => ((busbarref12_Groups.f kj4 bt226.1 t221).bind fun t234 => (busbarlaw14_GroupChecks.j1 kj4 a2 a3 bt226.1 bt226.2 (t233 != t234)))) else (busbarlaw14_GroupChecks.j1 kj4 a2 a3 bt226.1 bt226.2 true)))) else (some false)) = some r := H
    have A14 := Aside0.mk A140
    clear A140
    by_cases c15 : t224 = t225
    ·
     rw [if_pos c15] at H
     have c15b0 : (t224 == t225) = true := beq_iff_eq.mpr c15
     have c15b1 : (t224 != t225) = false := bne_eq_false_iff_eq.mpr c15
     clear c15
     replace H := Option.bind_eq_some_iff.mp H
     obtain ⟨⟨t226, t227⟩, A160, H⟩ := H
     replace H : ((group_Check.f kj4 t226 t227).bind fun t232 => (if t232 = 0 then ((group_Check.f kj4 t226 t221).bind fun t233 => ((busbarref12_Groups.f kj4 t226 t221).bind fun t234 => (busbarlaw14_GroupChecks.j1 kj4 a2 a3 t226 t227 (t233 != t234)))) else (busbarlaw14_GroupChecks.j1 kj4 a2 a3 t226 t227 true))) = some r := H
     have A16 := Aside0.mk A160
     clear A160
     have HC17 := Aside0.mk H
     clear H
     go_upto_region 7 with (first | ((with_reducible refine gate_callee (f := 19) rfl ?_); refine goesL_ (some 22) rfl rfl Try.func19 (by kernel_rfl) rfl #[.slice A1 l1.length c1] rfl (by (try simp only [List.map_toArray, List.map_cons, List.map_nil]); first | done | rfl | (simp only [List.length_drop, List.length_take]; rfl)) ?_; (with_reducible refine (busbarlaw0_Spans.calls kj4 _ _ l1 t221 _ ?side1 ?side2 A12.out).mono ?_); (case side1 => repeat (first | exact (Kd.C_below HR1.out HB.out) | (with_reducible refine Kd.C_alloc ?_ _) | (with_reducible refine Kd.C_drewN ?_ _) | (with_reducible refine Kd.C_drew ?_))); (case side2 => exact HC1.out); rintro e w18 ⟨v222, rfl, ho0, hb⟩; refine ⟨_, rfl, ?_⟩; have n0_ := Aside0.mk (Kd.R_lower ho0 (below_size (by repeat (first | (with_reducible first | exact HB.out | apply below_alloc | apply pw_below_drewN | apply below_drew1) | exact HB.out)))); have n1_ := Aside0.mk (below_step (by repeat (first | (with_reducible first | exact HB.out | apply below_alloc | apply pw_below_drewN | apply below_drew1) | exact HB.out)) hb); clear HB; have HO223 := n0_; have HB := n1_; clear n0_ n1_; (try clear hb); (try clear hb2); (try clear hk); (try clear hi); (try clear ho0); obtain ⟨Ao19, co19, eo19⟩ := Kd.R_slice HO223.out; subst eo19) | ((with_reducible refine gate_callee (f := 38) rfl ?_); refine goesL_ (some 25) rfl rfl Try.func38 (by kernel_rfl) rfl #[.slice A0 l0.length c0, .slice Ao19 t221.length co19] rfl (by (try simp only [List.map_toArray, List.map_cons, List.map_nil]); first | done | rfl | (simp only [List.length_drop, List.length_take]; rfl)) ?_; (with_reducible refine (group_Check.calls kj4 _ _ l0 _ _ t221 t224 _ ?side1 ?side2 ?side3 ?side4 A13.out).mono ?_); (case side1 => repeat (first | exact (Kd.C_below HR0.out HB.out) | (with_reducible refine Kd.C_alloc ?_ _) | (with_reducible refine Kd.C_drewN ?_ _) | (with_reducible refine Kd.C_drew ?_))); (case side2 => exact HC0.out); (case side3 => repeat (first | exact (Kd.R_reads' HO223.out).2.2 | (with_reducible refine Kd.C_alloc ?_ _) | (with_reducible refine Kd.C_drewN ?_ _) | (with_reducible refine Kd.C_drew ?_))); (case side4 => exact (Kd.R_reads' HO223.out).2.1); rintro e w20 ⟨rfl, hb⟩; refine ⟨_, rfl, ?_⟩; have n0_ := Aside0.mk (Kd.R_below (by (with_reducible repeat (first | apply Kd.R_alloc | apply Kd.R_drewN | apply Kd.R_drew)); exact HO223.out) hb); have n1_ := Aside0.mk (below_step (by repeat (first | (with_reducible first | exact HB.out | apply below_alloc | apply pw_below_drewN | apply below_drew1) | exact HB.out)) hb); clear HO223; clear HB; have HO223 := n0_; have HB := n1_; clear n0_ n1_; (try clear hb); (try clear hb2); (try clear hk); (try clear hi)) | ((with_reducible refine gate_callee (f := 39) rfl ?_); refine goesL_ (some 28) rfl rfl Try.func39 (by kernel_rfl) rfl #[.slice A0 l0.length c0, .slice Ao19 t221.length co19] rfl (by (try simp only [List.map_toArray, List.map_cons, List.map_nil]); first | done | rfl | (simp only [List.length_drop, List.length_take]; rfl)) ?_; (with_reducible refine (busbarref12_Groups.calls kj4 _ _ l0 _ _ t221 t225 _ ?side1 ?side2 ?side3 ?side4 A14.out).mono ?_); (case side1 => repeat (first | exact (Kd.C_below HR0.out HB.out) | (with_reducible refine Kd.C_alloc ?_ _) | (with_reducible refine Kd.C_drewN ?_ _) | (with_reducible refine Kd.C_drew ?_))); (case side2 => exact HC0.out); (case side3 => repeat (first | exact (Kd.R_reads' HO223.out).2.2 | (with_reducible refine Kd.C_alloc ?_ _) | (with_reducible refine Kd.C_drewN ?_ _) | (with_reducible refine Kd.C_drew ?_))); (case side4 => exact (Kd.R_reads' HO223.out).2.1); rintro e w21 ⟨rfl, hb⟩; refine ⟨_, rfl, ?_⟩; have n0_ := Aside0.mk (Kd.R_below (by (with_reducible repeat (first | apply Kd.R_alloc | apply Kd.R_drewN | apply Kd.R_drew)); exact HO223.out) hb); have n1_ := Aside0.mk (below_step (by repeat (first | (with_reducible first | exact HB.out | apply below_alloc | apply pw_below_drewN | apply below_drew1) | exact HB.out)) hb); clear HO223; clear HB; have HO223 := n0_; have HB := n1_; clear n0_ n1_; (try clear hb); (try clear hb2); (try clear hk); (try clear hi)) | ((with_reducible refine gate_callee (f := 13) rfl ?_); refine goesL_ (some 32) rfl rfl Try.func13 (by kernel_rfl) rfl #[.slice A1 l1.length c1] rfl (by (try simp only [List.map_toArray, List.map_cons, List.map_nil]); first | done | rfl | (simp only [List.length_drop, List.length_take]; rfl)) ?_; (with_reducible refine (busbarlaw14_All.calls kj4 _ _ l1 t226 t227 _ ?side1 ?side2 A16.out).mono ?_); (case side1 => repeat (first | exact (Kd.C_below HR1.out HB.out) | (with_reducible refine Kd.C_alloc ?_ _) | (with_reducible refine Kd.C_drewN ?_ _) | (with_reducible refine Kd.C_drew ?_))); (case side2 => exact HC1.out); rintro e w22 ⟨v228, v230, rfl, ho0, ho1, hb⟩; refine ⟨_, rfl, ?_⟩; have n0_ := Aside0.mk (Kd.R_elder' (by (with_reducible repeat (first | apply Kd.R_alloc | apply Kd.R_drewN | apply Kd.R_drew)); exact HO223.out) (Kd.R_base ho1) hb); have n1_ := Aside0.mk (Kd.R_lower ho0 (below_size (by repeat (first | (with_reducible first | exact HB.out | apply below_alloc | apply pw_below_drewN | apply below_drew1) | exact HB.out)))); have n2_ := Aside0.mk (Kd.R_lower (Kd.R_new' ho1 (Kd.R_lt (by (with_reducible repeat (first | apply Kd.R_alloc | apply Kd.R_drewN | apply Kd.R_drew)); exact HO223.out))) (below_size (by repeat (first | (with_reducible first | exact HB.out | apply below_alloc | apply pw_below_drewN | apply below_drew1) | exact HB.out)))); have n3_ := Aside0.mk (below_step (by repeat (first | (with_reducible first | exact HB.out | apply below_alloc | apply pw_below_drewN | apply below_drew1) | exact HB.out)) hb); clear HO223; clear HB; have HO223 := n0_; have HO229 := n1_; have HO231 := n2_; have HB := n3_; clear n0_ n1_ n2_ n3_; (try clear hb); (try clear hb2); (try clear hk); (try clear hi); (try clear ho0); (try clear ho1)))
     (try simp only [Act.put, List.setIfInBounds_toArray, List.set_cons_zero, List.set_cons_succ])
     go_cut [47] (fun v47 wc => ∃ (kq : Nat) (x47_16 : Bool), v47 = .bool x47_16 ∧ Aside0 (busbarlaw14_GroupChecks.j1 kq a2 a3 t226 t227 x47_16 = some r) ∧ Aside0 (kq ≤ kj4) ∧ Aside0 (Kd.R k30 30 wc w.heap.size (fun _ => True) v228 t226) ∧ Aside0 (Kd.R k32 32 wc w.heap.size (fun _ => True) v230 t227) ∧ Aside0 (Below w.heap.size w wc))
     case first =>
      have H := HC17.out
      clear HC17
      replace H := Option.bind_eq_some_iff.mp H
      obtain ⟨t232, A230, H⟩ := H
      replace H : (if t232 = 0 then ((group_Check.f kj4 t226 t221).bind fun t233 => ((busbarref12_Groups.f kj4 t226 t221).bind fun t234 => (busbarlaw14_GroupChecks.j1 kj4 a2 a3 t226 t227 (t233 != t234)))) else (busbarlaw14_GroupChecks.j1 kj4 a2 a3 t226 t227 true)) = some r := H
      have A23 := Aside0.mk A230
      clear A230
      by_cases c24 : t232 = 0
      ·
       rw [if_pos c24] at H
       have c24b0 : (t232 == 0) = true := beq_iff_eq.mpr c24
       have c24b1 : (t232 != 0) = false := bne_eq_false_iff_eq.mpr c24
       clear c24
       (first | rw [c24b0] | (simp only [i64_w, i32_w]; rw [c24b0]) | skip)
       replace H := Option.bind_eq_some_iff.mp H
       obtain ⟨t233, A250, H⟩ := H
       replace H : ((busbarref12_Groups.f kj4 t226 t221).bind fun t234 => (busbarlaw14_GroupChecks.j1 kj4 a2 a3 t226 t227 (t233 != t234))) = some r := H
       have A25 := Aside0.mk A250
       clear A250
       replace H := Option.bind_eq_some_iff.mp H
       obtain ⟨t234, A260, H⟩ := H
       replace H : (busbarlaw14_GroupChecks.j1 kj4 a2 a3 t226 t227 (t233 != t234)) = some r := H
       have A26 := Aside0.mk A260
       clear A260
       have H' := Aside0.mk H
       clear H
       obtain ⟨Ao27, co27, eo27⟩ := Kd.R_slice HO229.out
       subst eo27
       obtain ⟨Ao28, co28, eo28⟩ := Kd.R_slice HO231.out
       subst eo28
       go_wp2_with (first | ((with_reducible refine gate_callee (f := 38) rfl ?_); refine goesL_ (some 37) rfl rfl Try.func38 (by kernel_rfl) rfl #[.slice Ao27 t226.length co27, .slice Ao28 t227.length co28] rfl (by (try simp only [List.map_toArray, List.map_cons, List.map_nil]); first | done | rfl | (simp only [List.length_drop, List.length_take]; rfl)) ?_; (with_reducible refine (group_Check.calls kj4 _ _ t226 _ _ t227 t232 _ ?side1 ?side2 ?side3 ?side4 A23.out).mono ?_); (case side1 => repeat (first | exact (Kd.R_reads' HO229.out).2.2 | (with_reducible refine Kd.C_alloc ?_ _) | (with_reducible refine Kd.C_drewN ?_ _) | (with_reducible refine Kd.C_drew ?_))); (case side2 => exact (Kd.R_reads' HO229.out).2.1); (case side3 => repeat (first | exact (Kd.R_reads' HO231.out).2.2 | (with_reducible refine Kd.C_alloc ?_ _) | (with_reducible refine Kd.C_drewN ?_ _) | (with_reducible refine Kd.C_drew ?_))); (case side4 => exact (Kd.R_reads' HO231.out).2.1); rintro e w29 ⟨rfl, hb⟩; refine ⟨_, rfl, ?_⟩; have n0_ := Aside0.mk (Kd.R_below (by (with_reducible repeat (first | apply Kd.R_alloc | apply Kd.R_drewN | apply Kd.R_drew)); exact HO223.out) hb); have n1_ := Aside0.mk (Kd.R_below (by (with_reducible repeat (first | apply Kd.R_alloc | apply Kd.R_drewN | apply Kd.R_drew)); exact HO229.out) hb); have n2_ := Aside0.mk (Kd.R_below (by (with_reducible repeat (first | apply Kd.R_alloc | apply Kd.R_drewN | apply Kd.R_drew)); exact HO231.out) hb); have n3_ := Aside0.mk (below_step (by repeat (first | (with_reducible first | exact HB.out | apply below_alloc | apply pw_below_drewN | apply below_drew1) | exact HB.out)) hb); clear HO223; clear HO229; clear HO231; clear HB; have HO223 := n0_; have HO229 := n1_; have HO231 := n2_; have HB := n3_; clear n0_ n1_ n2_ n3_; (try clear hb); (try clear hb2); (try clear hk); (try clear hi)) | (go_at_call 38; (with_reducible refine (group_Check.calls kj4 _ _ t226 _ _ t221 t233 _ ?side1 ?side2 ?side3 ?side4 A25.out).mono ?_); (case side1 => repeat (first | exact (Kd.R_reads' HO229.out).2.2 | (with_reducible refine Kd.C_alloc ?_ _) | (with_reducible refine Kd.C_drewN ?_ _) | (with_reducible refine Kd.C_drew ?_))); (case side2 => exact (Kd.R_reads' HO229.out).2.1); (case side3 => repeat (first | exact (Kd.R_reads' HO223.out).2.2 | (with_reducible refine Kd.C_alloc ?_ _) | (with_reducible refine Kd.C_drewN ?_ _) | (with_reducible refine Kd.C_drew ?_))); (case side4 => exact (Kd.R_reads' HO223.out).2.1); rintro e w30 ⟨rfl, hb⟩; have n0_ := Aside0.mk (Kd.R_below (by (with_reducible repeat (first | apply Kd.R_alloc | apply Kd.R_drewN | apply Kd.R_drew)); exact HO223.out) hb); have n1_ := Aside0.mk (Kd.R_below (by (with_reducible repeat (first | apply Kd.R_alloc | apply Kd.R_drewN | apply Kd.R_drew)); exact HO229.out) hb); have n2_ := Aside0.mk (Kd.R_below (by (with_reducible repeat (first | apply Kd.R_alloc | apply Kd.R_drewN | apply Kd.R_drew)); exact HO231.out) hb); have n3_ := Aside0.mk (below_step (by repeat (first | (with_reducible first | exact HB.out | apply below_alloc | apply pw_below_drewN | apply below_drew1) | exact HB.out)) hb); clear HO223; clear HO229; clear HO231; clear HB; have HO223 := n0_; have HO229 := n1_; have HO231 := n2_; have HB := n3_; clear n0_ n1_ n2_ n3_; (try clear hb); (try clear hb2); (try clear hk); (try clear hi)) | (go_at_call 39; (with_reducible refine (busbarref12_Groups.calls kj4 _ _ t226 _ _ t221 t234 _ ?side1 ?side2 ?side3 ?side4 A26.out).mono ?_); (case side1 => repeat (first | exact (Kd.R_reads' HO229.out).2.2 | (with_reducible refine Kd.C_alloc ?_ _) | (with_reducible refine Kd.C_drewN ?_ _) | (with_reducible refine Kd.C_drew ?_))); (case side2 => exact (Kd.R_reads' HO229.out).2.1); (case side3 => repeat (first | exact (Kd.R_reads' HO223.out).2.2 | (with_reducible refine Kd.C_alloc ?_ _) | (with_reducible refine Kd.C_drewN ?_ _) | (with_reducible refine Kd.C_drew ?_))); (case side4 => exact (Kd.R_reads' HO223.out).2.1); rintro e w31 ⟨rfl, hb⟩; have n0_ := Aside0.mk (Kd.R_below (by (with_reducible repeat (first | apply Kd.R_alloc | apply Kd.R_drewN | apply Kd.R_drew)); exact HO223.out) hb); have n1_ := Aside0.mk (Kd.R_below (by (with_reducible repeat (first | apply Kd.R_alloc | apply Kd.R_drewN | apply Kd.R_drew)); exact HO229.out) hb); have n2_ := Aside0.mk (Kd.R_below (by (with_reducible repeat (first | apply Kd.R_alloc | apply Kd.R_drewN | apply Kd.R_drew)); exact HO231.out) hb); have n3_ := Aside0.mk (below_step (by repeat (first | (with_reducible first | exact HB.out | apply below_alloc | apply pw_below_drewN | apply below_drew1) | exact HB.out)) hb); clear HO223; clear HO229; clear HO231; clear HB; have HO223 := n0_; have HO229 := n1_; have HO231 := n2_; have HB := n3_; clear n0_ n1_ n2_ n3_; (try clear hb); (try clear hb2); (try clear hk); (try clear hi)))
       go_meet
       case rel => exact ⟨_, ((t233 != t234)), (by first | rfl | (simp; done) | (simp [*]; done)), H', ⟨by have := HJ4.out; first | omega | exact Nat.le_refl _⟩, ⟨by (with_reducible repeat (first | apply Kd.R_alloc | apply Kd.R_drewN | apply Kd.R_drew)); exact HO229.out⟩, ⟨by (with_reducible repeat (first | apply Kd.R_alloc | apply Kd.R_drewN | apply Kd.R_drew)); exact Kd.R_mono HO231.out (fun _ hk => trivial)⟩, ⟨by repeat (first | (with_reducible first | exact HB.out | apply below_alloc | apply pw_below_drewN | apply below_drew1) | exact HB.out)⟩⟩
      ·
       rw [if_neg c24] at H
       have c24b0 : (t232 == 0) = false := beq_eq_false_iff_ne.mpr c24
       have c24b1 : (t232 != 0) = true := bne_iff_ne.mpr c24
       (first | rw [c24b0] | (simp only [i64_w, i32_w]; rw [c24b0]) | skip)
       have H' := Aside0.mk H
       clear H
       obtain ⟨Ao32, co32, eo32⟩ := Kd.R_slice HO229.out
       subst eo32
       obtain ⟨Ao33, co33, eo33⟩ := Kd.R_slice HO231.out
       subst eo33
       go_wp2_with (first | ((with_reducible refine gate_callee (f := 38) rfl ?_); refine goesL_ (some 37) rfl rfl Try.func38 (by kernel_rfl) rfl #[.slice Ao32 t226.length co32, .slice Ao33 t227.length co33] rfl (by (try simp only [List.map_toArray, List.map_cons, List.map_nil]); first | done | rfl | (simp only [List.length_drop, List.length_take]; rfl)) ?_; (with_reducible refine (group_Check.calls kj4 _ _ t226 _ _ t227 t232 _ ?side1 ?side2 ?side3 ?side4 A23.out).mono ?_); (case side1 => repeat (first | exact (Kd.R_reads' HO229.out).2.2 | (with_reducible refine Kd.C_alloc ?_ _) | (with_reducible refine Kd.C_drewN ?_ _) | (with_reducible refine Kd.C_drew ?_))); (case side2 => exact (Kd.R_reads' HO229.out).2.1); (case side3 => repeat (first | exact (Kd.R_reads' HO231.out).2.2 | (with_reducible refine Kd.C_alloc ?_ _) | (with_reducible refine Kd.C_drewN ?_ _) | (with_reducible refine Kd.C_drew ?_))); (case side4 => exact (Kd.R_reads' HO231.out).2.1); rintro e w34 ⟨rfl, hb⟩; refine ⟨_, rfl, ?_⟩; have n0_ := Aside0.mk (Kd.R_below (by (with_reducible repeat (first | apply Kd.R_alloc | apply Kd.R_drewN | apply Kd.R_drew)); exact HO223.out) hb); have n1_ := Aside0.mk (Kd.R_below (by (with_reducible repeat (first | apply Kd.R_alloc | apply Kd.R_drewN | apply Kd.R_drew)); exact HO229.out) hb); have n2_ := Aside0.mk (Kd.R_below (by (with_reducible repeat (first | apply Kd.R_alloc | apply Kd.R_drewN | apply Kd.R_drew)); exact HO231.out) hb); have n3_ := Aside0.mk (below_step (by repeat (first | (with_reducible first | exact HB.out | apply below_alloc | apply pw_below_drewN | apply below_drew1) | exact HB.out)) hb); clear HO223; clear HO229; clear HO231; clear HB; have HO223 := n0_; have HO229 := n1_; have HO231 := n2_; have HB := n3_; clear n0_ n1_ n2_ n3_; (try clear hb); (try clear hb2); (try clear hk); (try clear hi)))
       go_meet
       case rel => exact ⟨_, (true), (by first | rfl | (simp; done) | (simp [*]; done)), H', ⟨by have := HJ4.out; first | omega | exact Nat.le_refl _⟩, ⟨by (with_reducible repeat (first | apply Kd.R_alloc | apply Kd.R_drewN | apply Kd.R_drew)); exact HO229.out⟩, ⟨by (with_reducible repeat (first | apply Kd.R_alloc | apply Kd.R_drewN | apply Kd.R_drew)); exact Kd.R_mono HO231.out (fun _ hk => trivial)⟩, ⟨by repeat (first | (with_reducible first | exact HB.out | apply below_alloc | apply pw_below_drewN | apply below_drew1) | exact HB.out)⟩⟩
     case rest =>
      clear HC17
      try clear c1
      try clear c2
      try clear p2
      try clear c3
      try clear c6
      try clear c6b0
      try clear c6b1
      try clear c9
      try clear c11
      try clear c12
      try clear c13
      try clear c15
      try clear c15b0
      try clear c15b1
      try clear c19
      try clear c24
      try clear c24b0
      try clear c24b1
      try clear p2
      obtain ⟨kq, x47_16, rfl, HA, HJ16, HO_10, HO_11, HB⟩ := hcut
      cases kq with
      | zero => exact absurd HA.out (by simp [busbarlaw14_GroupChecks.j1])
      | succ kj16 =>
       have H := HA.out
       clear HA
       simp only [busbarlaw14_GroupChecks.j1] at H
       by_cases c35 : x47_16 = true
       ·
        subst c35
        have H1 : (some false) = some r := by rw [if_pos rfl] at H; exact H
        clear H
        have H := H1
        clear H1
        obtain rfl := Option.some.inj H
        go_wp2
        go_ret
        exact ⟨by first | rfl | (simp [errW_none, errW_some] <;> rfl) | (simp [*, errW_none, errW_some] <;> rfl), by repeat (first | (with_reducible first | exact HB.out | apply below_alloc | apply pw_below_drewN | apply below_drew1) | exact HB.out)⟩
       ·
        replace c35 := Bool.eq_false_iff.mpr c35
        subst c35
        have H1 : (if (t226.length : Int) = 0 then (some true) else ((busbarlaw0_Digit.f a2 4 (t226.length : Int)).bind fun t235 => ((busbarlaw0_Within.f a2 4).bind fun t236 => (if t236 = 0 then ((busbarlaw0_Within.f a3 6).bind fun t237 => (if 0 ≤ t235 then (if t235 < (t226.length : Int) then ((some (t226.set (t235 : Int).toNat (⟨wrap64 (t237 - 1), (rd_T30 t226 t235).f1, (rd_T30 t226 t235).f2⟩ : S30) : List (S30))).bind fun y238 => ((group_Check.f kj16 y238 t227).bind fun t239 => ((busbarref12_Groups.f kj16 y238 t227).bind fun t240 => (some (t239 == t240))))) else (none)) else (none))) else (if t236 = 1 then (if 0 ≤ t235 then (if t235 < (t226.length : Int) then ((some (t226.set (t235 : Int).toNat (⟨(rd_T30 t226 t235).f0, a3, (rd_T30 t226 t235).f2⟩ : S30) : List (S30))).bind fun y241 => ((group_Check.f kj16 y241 t227).bind fun t242 => ((busbarref12_Groups.f kj16 y241 t227).bind fun t243 => (some (t242 == t243))))) else (none)) else (none)) else (if t236 = 2 then ((busbarlaw0_Within.f a3 7).bind fun t244 => (if 0 ≤ t235 then (if t235 < (t226.length : Int) then ((some (t226.set (t235 : Int).toNat (⟨(rd_T30 t226 t235).f0, (rd_T30 t226 t235).f1, wrap64 (t244 - 1)⟩ : S30) : List (S30))).bind fun y245 => ((group_Check.f kj16 y245 t227).bind fun t246 => ((busbarref12_Groups.f kj16 y245 t227).bind fun t247 => (some (t246 == t247))))) else (none)) else (none))) else (if t236 = 3 then ((busbarlaw0_Within.f a3 60).bind fun t248 => (if 0 ≤ t235 then (if t235 < (t226.length : Int) then ((some (t226.set (t235 : Int).toNat (⟨(rd_T30 t226 t235).f0, t248, (rd_T30 t226 t235).f2⟩ : S30) : List (S30))).bind fun y249 => ((group_Check.f kj16 y249 t227).bind fun t250 => ((busbarref12_Groups.f kj16 y249 t227).bind fun t251 => (some (t250 == t251))))) else (none)) else (none))) else ((group_Check.f kj16 t226 t227).bind fun t252 => ((busbarref12_Groups.f kj16 t226 t227).bind fun t253 => (some (t252 == t253))))))))))) = some r := by rw [if_neg (show ¬ (false = true) by decide)] at H; exact H
        clear H
        have H := H1
        clear H1
        by_cases c36 : (t226.length : Int) = 0
        ·
         rw [if_pos c36] at H
         have c36b0 : ((t226.length : Int) == 0) = true := beq_iff_eq.mpr c36
         have c36b1 : ((t226.length : Int) != 0) = false := bne_eq_false_iff_eq.mpr c36
         clear c36
         obtain rfl := Option.some.inj H
         obtain ⟨Ao37, co37, eo37⟩ := Kd.R_slice HO_10.out
         subst eo37
         go_wp2
         go_ret
         exact ⟨by first | rfl | (simp [errW_none, errW_some] <;> rfl) | (simp [*, errW_none, errW_some] <;> rfl), by repeat (first | (with_reducible first | exact HB.out | apply below_alloc | apply pw_below_drewN | apply below_drew1) | exact HB.out)⟩
        ·
         rw [if_neg c36] at H
         have c36b0 : ((t226.length : Int) == 0) = false := beq_eq_false_iff_ne.mpr c36
         have c36b1 : ((t226.length : Int) != 0) = true := bne_iff_ne.mpr c36
         have c36b2 : ¬ (t226 = []) := fun h_ => c36 (by rw [h_]; rfl)
         replace H := Option.bind_eq_some_iff.mp H
         obtain ⟨t235, A380, H⟩ := H
         replace H : ((busbarlaw0_Within.f a2 4).bind fun t236 => (if t236 = 0 then ((busbarlaw0_Within.f a3 6).bind fun t237 => (if 0 ≤ t235 then (if t235 < (t226.length : Int) then ((some (t226.set (t235 : Int).toNat (⟨wrap64 (t237 - 1), (rd_T30 t226 t235).f1, (rd_T30 t226 t235).f2⟩ : S30) : List (S30))).bind fun y238 => ((group_Check.f kj16 y238 t227).bind fun t239 => ((busbarref12_Groups.f kj16 y238 t227).bind fun t240 => (some (t239 == t240))))) else (none)) else (none))) else (if t236 = 1 then (if 0 ≤ t235 then (if t235 < (t226.length : Int) then ((some (t226.set (t235 : Int).toNat (⟨(rd_T30 t226 t235).f0, a3, (rd_T30 t226 t235).f2⟩ : S30) : List (S30))).bind fun y241 => ((group_Check.f kj16 y241 t227).bind fun t242 => ((busbarref12_Groups.f kj16 y241 t227).bind fun t243 => (some (t242 == t243))))) else (none)) else (none)) else (if t236 = 2 then ((busbarlaw0_Within.f a3 7).bind fun t244 => (if 0 ≤ t235 then (if t235 < (t226.length : Int) then ((some (t226.set (t235 : Int).toNat (⟨(rd_T30 t226 t235).f0, (rd_T30 t226 t235).f1, wrap64 (t244 - 1)⟩ : S30) : List (S30))).bind fun y245 => ((group_Check.f kj16 y245 t227).bind fun t246 => ((busbarref12_Groups.f kj16 y245 t227).bind fun t247 => (some (t246 == t247))))) else (none)) else (none))) else (if t236 = 3 then ((busbarlaw0_Within.f a3 60).bind fun t248 => (if 0 ≤ t235 then (if t235 < (t226.length : Int) then ((some (t226.set (t235 : Int).toNat (⟨(rd_T30 t226 t235).f0, t248, (rd_T30 t226 t235).f2⟩ : S30) : List (S30))).bind fun y249 => ((group_Check.f kj16 y249 t227).bind fun t250 => ((busbarref12_Groups.f kj16 y249 t227).bind fun t251 => (some (t250 == t251))))) else (none)) else (none))) else ((group_Check.f kj16 t226 t227).bind fun t252 => ((busbarref12_Groups.f kj16 t226 t227).bind fun t253 => (some (t252 == t253))))))))) = some r := H
         have A38 := Aside0.mk A380
         clear A380
         replace H := Option.bind_eq_some_iff.mp H
         obtain ⟨t236, A390, H⟩ := H
         replace H : (if t236 = 0 then ((busbarlaw0_Within.f a3 6).bind fun t237 => (if 0 ≤ t235 then (if t235 < (t226.length : Int) then ((some (t226.set (t235 : Int).toNat (⟨wrap64 (t237 - 1), (rd_T30 t226 t235).f1, (rd_T30 t226 t235).f2⟩ : S30) : List (S30))).bind fun y238 => ((group_Check.f kj16 y238 t227).bind fun t239 => ((busbarref12_Groups.f kj16 y238 t227).bind fun t240 => (some (t239 == t240))))) else (none)) else (none))) else (if t236 = 1 then (if 0 ≤ t235 then (if t235 < (t226.length : Int) then ((some (t226.set (t235 : Int).toNat (⟨(rd_T30 t226 t235).f0, a3, (rd_T30 t226 t235).f2⟩ : S30) : List (S30))).bind fun y241 => ((group_Check.f kj16 y241 t227).bind fun t242 => ((busbarref12_Groups.f kj16 y241 t227).bind fun t243 => (some (t242 == t243))))) else (none)) else (none)) else (if t236 = 2 then ((busbarlaw0_Within.f a3 7).bind fun t244 => (if 0 ≤ t235 then (if t235 < (t226.length : Int) then ((some (t226.set (t235 : Int).toNat (⟨(rd_T30 t226 t235).f0, (rd_T30 t226 t235).f1, wrap64 (t244 - 1)⟩ : S30) : List (S30))).bind fun y245 => ((group_Check.f kj16 y245 t227).bind fun t246 => ((busbarref12_Groups.f kj16 y245 t227).bind fun t247 => (some (t246 == t247))))) else (none)) else (none))) else (if t236 = 3 then ((busbarlaw0_Within.f a3 60).bind fun t248 => (if 0 ≤ t235 then (if t235 < (t226.length : Int) then ((some (t226.set (t235 : Int).toNat (⟨(rd_T30 t226 t235).f0, t248, (rd_T30 t226 t235).f2⟩ : S30) : List (S30))).bind fun y249 => ((group_Check.f kj16 y249 t227).bind fun t250 => ((busbarref12_Groups.f kj16 y249 t227).bind fun t251 => (some (t250 == t251))))) else (none)) else (none))) else ((group_Check.f kj16 t226 t227).bind fun t252 => ((busbarref12_Groups.f kj16 t226 t227).bind fun t253 => (some (t252 == t253)))))))) = some r := H
         have A39 := Aside0.mk A390
         clear A390
         by_cases c40 : t236 = 0
         ·
          rw [if_pos c40] at H
          have c40b0 : (t236 == 0) = true := beq_iff_eq.mpr c40
          have c40b1 : (t236 != 0) = false := bne_eq_false_iff_eq.mpr c40
          clear c40
          replace H := Option.bind_eq_some_iff.mp H
          obtain ⟨t237, A410, H⟩ := H
          replace H : (if 0 ≤ t235 then (if t235 < (t226.length : Int) then ((some (t226.set (t235 : Int).toNat (⟨wrap64 (t237 - 1), (rd_T30 t226 t235).f1, (rd_T30 t226 t235).f2⟩ : S30) : List (S30))).bind fun y238 => ((group_Check.f kj16 y238 t227).bind fun t239 => ((busbarref12_Groups.f kj16 y238 t227).bind fun t240 => (some (t239 == t240))))) else (none)) else (none)) = some r := H
          have A41 := Aside0.mk A410
          clear A410
          by_cases c42 : 0 ≤ t235
          ·
           rw [if_pos c42] at H
           have c42b0 : decide (0 ≤ t235) = true := decide_eq_true c42
           clear c42
           by_cases c43 : t235 < (t226.length : Int)
           ·
            rw [if_pos c43] at H
            have c43b0 : decide (t235 < (t226.length : Int)) = true := decide_eq_true c43
            clear c43
            obtain ⟨y238, hy238⟩ : ∃ y_ : List (S30), y_ = (t226.set (t235 : Int).toNat (⟨wrap64 (t237 - 1), (rd_T30 t226 t235).f1, (rd_T30 t226 t235).f2⟩ : S30)) := ⟨_, rfl⟩
            replace H : ((group_Check.f kj16 y238 t227).bind fun t239 => ((busbarref12_Groups.f kj16 y238 t227).bind fun t240 => (some (t239 == t240)))) = some r := by first | (rw [hy238]; with_reducible exact H) | (have H2_ := (Option.bind_some _ _).symm.trans H; rw [hy238]; with_reducible exact H2_) | (have H2_ := (Option.bind_some _ _).symm.trans H; with_reducible exact H2_) | with_reducible exact H | (rw [hy238]; exact H) | exact H
            have Ny238 := Aside0.mk hy238
            clear hy238
            replace H := Option.bind_eq_some_iff.mp H
            obtain ⟨t239, A450, H⟩ := H
            replace H : ((busbarref12_Groups.f kj16 y238 t227).bind fun t240 => (some (t239 == t240))) = some r := H
            have A45 := Aside0.mk A450
            clear A450
            replace H := Option.bind_eq_some_iff.mp H
            obtain ⟨t240, A460, H⟩ := H
            replace H : (some (t239 == t240)) = some r := H
            have A46 := Aside0.mk A460
            clear A460
            obtain rfl := Option.some.inj H
            obtain ⟨Ao47, co47, eo47⟩ := Kd.R_slice HO_10.out
            subst eo47
            go_wp2_with (first | ((with_reducible refine gate_callee (f := 17) rfl ?_); refine goesL_ (some 54) rfl rfl Try.func17 (by kernel_rfl) rfl #[.int .i64 a2, .int .i64 4, .int .i64 (t226.length : Int)] rfl (by (try simp only [List.map_toArray, List.map_cons, List.map_nil]); first | done | rfl | (simp only [List.length_drop, List.length_take]; rfl)) ?_; (with_reducible refine (busbarlaw0_Digit.calls a2 4 (t226.length : Int) t235 _ A38.out).mono ?_); rintro e w' ⟨rfl, ⟨nd, rfl⟩⟩; refine ⟨_, rfl, ?_⟩; (try (rw [drewN_self wc]; generalize hq_ : World.drewN wc _ = wc; have n0_ : Aside0 (Kd.R k30 30 wc w.heap.size (fun _ => True) (.slice Ao47 t226.length co47) t226) := ⟨by rw [← hq_]; exact (by (with_reducible repeat (first | apply Kd.R_alloc | apply Kd.R_drewN | apply Kd.R_drew)); exact HO_10.out)⟩; have n1_ : Aside0 (Kd.R k32 32 wc w.heap.size (fun _ => True) v230 t227) := ⟨by rw [← hq_]; exact (by (with_reducible repeat (first | apply Kd.R_alloc | apply Kd.R_drewN | apply Kd.R_drew)); exact HO_11.out)⟩; have n2_ : Aside0 (Below w.heap.size w wc) := ⟨by rw [← hq_]; exact (by repeat (first | (with_reducible first | exact HB.out | apply below_alloc | apply pw_below_drewN | apply below_drew1) | exact HB.out))⟩; clear HO_10 HO_11 HB hq_; have HO_10 := n0_; have HO_11 := n1_; have HB := n2_; clear n0_ n1_ n2_))) | ((with_reducible refine gate_callee (f := 14) rfl ?_); refine goesL_ (some 56) rfl rfl Try.func14 (by kernel_rfl) rfl #[.int .i64 a2, .int .i64 4] rfl (by (try simp only [List.map_toArray, List.map_cons, List.map_nil]); first | done | rfl | (simp only [List.length_drop, List.length_take]; rfl)) ?_; (with_reducible refine (busbarlaw0_Within.calls a2 4 t236 _ A39.out).mono ?_); rintro e w' ⟨rfl, ⟨nd, rfl⟩⟩; refine ⟨_, rfl, ?_⟩; (try (rw [drewN_self wc]; generalize hq_ : World.drewN wc _ = wc; have n0_ : Aside0 (Kd.R k30 30 wc w.heap.size (fun _ => True) (.slice Ao47 t226.length co47) t226) := ⟨by rw [← hq_]; exact (by (with_reducible repeat (first | apply Kd.R_alloc | apply Kd.R_drewN | apply Kd.R_drew)); exact HO_10.out)⟩; have n1_ : Aside0 (Kd.R k32 32 wc w.heap.size (fun _ => True) v230 t227) := ⟨by rw [← hq_]; exact (by (with_reducible repeat (first | apply Kd.R_alloc | apply Kd.R_drewN | apply Kd.R_drew)); exact HO_11.out)⟩; have n2_ : Aside0 (Below w.heap.size w wc) := ⟨by rw [← hq_]; exact (by repeat (first | (with_reducible first | exact HB.out | apply below_alloc | apply pw_below_drewN | apply below_drew1) | exact HB.out))⟩; clear HO_10 HO_11 HB hq_; have HO_10 := n0_; have HO_11 := n1_; have HB := n2_; clear n0_ n1_ n2_))) | ((with_reducible refine gate_callee (f := 14) rfl ?_); refine goesL_ (some 62) rfl rfl Try.func14 (by kernel_rfl) rfl #[.int .i64 a3, .int .i64 6] rfl (by (try simp only [List.map_toArray, List.map_cons, List.map_nil]); first | done | rfl | (simp only [List.length_drop, List.length_take]; rfl)) ?_; (with_reducible refine (busbarlaw0_Within.calls a3 6 t237 _ A41.out).mono ?_); rintro e w' ⟨rfl, ⟨nd, rfl⟩⟩; refine ⟨_, rfl, ?_⟩; (try (rw [drewN_self wc]; generalize hq_ : World.drewN wc _ = wc; have n0_ : Aside0 (Kd.R k30 30 wc w.heap.size (fun _ => True) (.slice Ao47 t226.length co47) t226) := ⟨by rw [← hq_]; exact (by (with_reducible repeat (first | apply Kd.R_alloc | apply Kd.R_drewN | apply Kd.R_drew)); exact HO_10.out)⟩; have n1_ : Aside0 (Kd.R k32 32 wc w.heap.size (fun _ => True) v230 t227) := ⟨by rw [← hq_]; exact (by (with_reducible repeat (first | apply Kd.R_alloc | apply Kd.R_drewN | apply Kd.R_drew)); exact HO_11.out)⟩; have n2_ : Aside0 (Below w.heap.size w wc) := ⟨by rw [← hq_]; exact (by repeat (first | (with_reducible first | exact HB.out | apply below_alloc | apply pw_below_drewN | apply below_drew1) | exact HB.out))⟩; clear HO_10 HO_11 HB hq_; have HO_10 := n0_; have HO_11 := n1_; have HB := n2_; clear n0_ n1_ n2_)); have p44 : 0 ≤ (t235 : Int) := of_decide_eq_true (by first | (with_reducible assumption) | assumption); have q44 : (t235 : Int) < ((t226.length : Int) : Int) := of_decide_eq_true (by first | (with_reducible assumption) | assumption); obtain ⟨go44, co44, eo44, gb44, gl44, cl44, HG44⟩ := Kd.R_form HO_10.out (by omega); (first | cases eo44 | (injection eo44 with ea_ en_ ec_; (first | subst ea_ | (injection ea_ with ea_; subst ea_)); subst ec_; clear en_)); have GB44 := Aside0.mk gb44; have GG44 := Aside0.mk HG44; clear gb44 gl44 HG44; obtain ⟨ce44, hcl44, hM44, hcc44, hfr44⟩ := Kd.R_elem HO_10.out z30 (t235 : Int) p44 q44; obtain rfl := k30_openM hM44; have hx44_0 : wc.cell? ⟨go44, (t235 : Int).toNat * 3, none⟩ = some (.int .i64 ((rd_T30 t226 t235).f0)) := hcc44 0 _ rfl; have hx44_1 : wc.cell? ⟨go44, (t235 : Int).toNat * 3 + 1, none⟩ = some (.int .i64 ((rd_T30 t226 t235).f1)) := hcc44 1 _ rfl; have hx44_2 : wc.cell? ⟨go44, (t235 : Int).toNat * 3 + 2, none⟩ = some (.int .i64 ((rd_T30 t226 t235).f2)) := hcc44 2 _ rfl; have hf44_0 : wc.frozen? ⟨go44, (t235 : Int).toNat * 3, none⟩ = false := hfr44 0; have hf44_1 : wc.frozen? ⟨go44, (t235 : Int).toNat * 3 + 1, none⟩ = false := hfr44 1; have hf44_2 : wc.frozen? ⟨go44, (t235 : Int).toNat * 3 + 2, none⟩ = false := hfr44 2; clear hcl44 hcc44 hfr44 hM44; replace p44 := eq_true p44; replace q44 := eq_true q44; have HX48 := Aside0.mk (show Kd.R k30 30 wc w.heap.size (fun _ => True) (.slice (some ⟨go44, 0, none⟩) t226.length co47) t226 from (by (with_reducible repeat (first | apply Kd.R_alloc | apply Kd.R_drewN | apply Kd.R_drew)); exact HO_10.out)); obtain ⟨ce48, hcl48, hM48, hcc48, hfr48⟩ := Kd.R_elem HX48.out z30 (t235 : Int) (of_decide_eq_true (by first | (with_reducible assumption) | assumption)) (by have h_ : (t235 : Int) < ((t226.length : Int) : Int) := of_decide_eq_true (by first | (with_reducible assumption) | assumption); first | exact h_ | (have e_ := (Kd.R_reads' HO_10.out).1; omega) | simpa using h_); obtain rfl := k30_openM hM48; have HP48 := Kd.R_seg HX48.out (t235 : Int) (of_decide_eq_true (by first | (with_reducible assumption) | assumption)) (by have h_ : (t235 : Int) < ((t226.length : Int) : Int) := of_decide_eq_true (by first | (with_reducible assumption) | assumption); first | exact h_ | (have e_ := (Kd.R_reads' HO_10.out).1; omega) | simpa using h_) (seg := [.int .i64 (wrap64 (t237 - 1))]) (j := 0) hcl48 hcc48 (show 1 ≤ 3 from by decide) (x' := (⟨wrap64 (t237 - 1), (rd_T30 t226 t235).f1, (rd_T30 t226 t235).f2⟩ : S30)) (k30_mkM _ _ _ (⟨wrap64 (t237 - 1), (rd_T30 t226 t235).f1, (rd_T30 t226 t235).f2⟩ : S30) ) (fun _ hk => hk); have hx48_0 := hcc48 0 _ rfl; (try simp only [show (k30).sz = 3 from rfl, Nat.mul_one, Nat.add_zero] at hx48_0); have hf48_0 := hfr48 0; (try simp only [show (k30).sz = 3 from rfl, Nat.mul_one, Nat.add_zero] at hf48_0); clear hcl48 hcc48 hfr48 hM48) | ((with_reducible refine gate_store (t := 3) (p := 65) rfl ?_); refine store_event (t := 3) (p := 65) (v := ?vo_w49) (w1 := (wc.setCell ⟨go44, (t235 : Int).toNat * 3, none⟩ (.int .i64 (wrap64 (t237 - 1))))) ?hg ?ho ?hn ?hr ?_; (case ho => rfl); (case hg => rfl); (case hn => rfl); (case hr => first | (go_simp; done) | (go_simp; rfl)); intro w49 hw; have hg : wc.grownBy w49 (some go44) := (by rw [hw]; exact HP48.2); have hp_ : Kd.R k30 30 w49 w.heap.size (fun _ => True) (.slice (some ⟨go44, 0, none⟩) t226.length co47) y238 := (by rw [hw, Ny238.out]; exact HP48.1); clear HP48; have n0_ := Aside0.mk (hp_); have n1_ := Aside0.mk (Kd.R_over' (v := (.slice (some ⟨go44, 0, none⟩) t226.length co47)) (by (with_reducible repeat (first | apply Kd.R_alloc | apply Kd.R_drewN | apply Kd.R_drew)); exact HO_11.out) (Kd.R_typed HO_10.out) (by decide) hg); have n2_ := Aside0.mk ((by rw [hw]; exact below_set (HB.out) GB44.out : Below w.heap.size w w49)); clear HO_10; clear HO_11; clear HB; have HO_10 := n0_; have HO_11 := n1_; have HB := n2_; clear n0_ n1_ n2_; clear hg hw hp_; obtain ⟨Ao50, co50, eo50⟩ := Kd.R_slice HO_11.out; subst eo50) | ((with_reducible refine gate_callee (f := 38) rfl ?_); refine goesL_ (some 92) rfl rfl Try.func38 (by kernel_rfl) rfl #[.slice (some ⟨go44, 0, none⟩) y238.length co47, .slice Ao50 t227.length co50] rfl (by (try simp only [List.map_toArray, List.map_cons, List.map_nil]); first | done | (rw [show y238.length = t226.length from (Kd.R_reads' HO_10.out).1.symm] <;> rfl) | rfl | (simp only [List.length_drop, List.length_take]; rfl)) ?_; (with_reducible refine (group_Check.calls kj16 _ _ y238 _ _ t227 t239 _ ?side1 ?side2 ?side3 ?side4 A45.out).mono ?_); (case side1 => repeat (first | exact (Kd.R_reads' HO_10.out).2.2 | (with_reducible refine Kd.C_alloc ?_ _) | (with_reducible refine Kd.C_drewN ?_ _) | (with_reducible refine Kd.C_drew ?_))); (case side2 => rw [show y238.length = t226.length from (Kd.R_reads' HO_10.out).1.symm]; exact (Kd.R_reads' HO_10.out).2.1); (case side3 => repeat (first | exact (Kd.R_reads' HO_11.out).2.2 | (with_reducible refine Kd.C_alloc ?_ _) | (with_reducible refine Kd.C_drewN ?_ _) | (with_reducible refine Kd.C_drew ?_))); (case side4 => exact (Kd.R_reads' HO_11.out).2.1); rintro e w51 ⟨rfl, hb⟩; refine ⟨_, rfl, ?_⟩; have n0_ := Aside0.mk (Kd.R_below (by (with_reducible repeat (first | apply Kd.R_alloc | apply Kd.R_drewN | apply Kd.R_drew)); exact HO_10.out) hb); have n1_ := Aside0.mk (Kd.R_below (by (with_reducible repeat (first | apply Kd.R_alloc | apply Kd.R_drewN | apply Kd.R_drew)); exact HO_11.out) hb); have n2_ := Aside0.mk (below_step (by repeat (first | (with_reducible first | exact HB.out | apply below_alloc | apply pw_below_drewN | apply below_drew1) | exact HB.out)) hb); clear HO_10; clear HO_11; clear HB; have HO_10 := n0_; have HO_11 := n1_; have HB := n2_; clear n0_ n1_ n2_; (try clear hb); (try clear hb2); (try clear hk); (try clear hi)) | ((with_reducible refine gate_callee (f := 39) rfl ?_); refine goesL_ (some 95) rfl rfl Try.func39 (by kernel_rfl) rfl #[.slice (some ⟨go44, 0, none⟩) y238.length co47, .slice Ao50 t227.length co50] rfl (by (try simp only [List.map_toArray, List.map_cons, List.map_nil]); first | done | (rw [show y238.length = t226.length from (Kd.R_reads' HO_10.out).1.symm] <;> rfl) | rfl | (simp only [List.length_drop, List.length_take]; rfl)) ?_; (with_reducible refine (busbarref12_Groups.calls kj16 _ _ y238 _ _ t227 t240 _ ?side1 ?side2 ?side3 ?side4 A46.out).mono ?_); (case side1 => repeat (first | exact (Kd.R_reads' HO_10.out).2.2 | (with_reducible refine Kd.C_alloc ?_ _) | (with_reducible refine Kd.C_drewN ?_ _) | (with_reducible refine Kd.C_drew ?_))); (case side2 => rw [show y238.length = t226.length from (Kd.R_reads' HO_10.out).1.symm]; exact (Kd.R_reads' HO_10.out).2.1); (case side3 => repeat (first | exact (Kd.R_reads' HO_11.out).2.2 | (with_reducible refine Kd.C_alloc ?_ _) | (with_reducible refine Kd.C_drewN ?_ _) | (with_reducible refine Kd.C_drew ?_))); (case side4 => exact (Kd.R_reads' HO_11.out).2.1); rintro e w52 ⟨rfl, hb⟩; refine ⟨_, rfl, ?_⟩; have n0_ := Aside0.mk (Kd.R_below (by (with_reducible repeat (first | apply Kd.R_alloc | apply Kd.R_drewN | apply Kd.R_drew)); exact HO_10.out) hb); have n1_ := Aside0.mk (Kd.R_below (by (with_reducible repeat (first | apply Kd.R_alloc | apply Kd.R_drewN | apply Kd.R_drew)); exact HO_11.out) hb); have n2_ := Aside0.mk (below_step (by repeat (first | (with_reducible first | exact HB.out | apply below_alloc | apply pw_below_drewN | apply below_drew1) | exact HB.out)) hb); clear HO_10; clear HO_11; clear HB; have HO_10 := n0_; have HO_11 := n1_; have HB := n2_; clear n0_ n1_ n2_; (try clear hb); (try clear hb2); (try clear hk); (try clear hi)))
            go_ret
            exact ⟨by first | rfl | (simp [errW_none, errW_some] <;> rfl) | (simp [*, errW_none, errW_some] <;> rfl), by repeat (first | (with_reducible first | exact HB.out | apply below_alloc | apply pw_below_drewN | apply below_drew1) | exact HB.out)⟩
           ·
            rw [if_neg c43] at H
            exact absurd H (by simp)
          ·
           rw [if_neg c42] at H
           exact absurd H (by simp)
         ·
          rw [if_neg c40] at H
          have c40b0 : (t236 == 0) = false := beq_eq_false_iff_ne.mpr c40
          have c40b1 : (t236 != 0) = true := bne_iff_ne.mpr c40
          by_cases c53 : t236 = 1
          ·
           rw [if_pos c53] at H
           have c53b0 : (t236 == 1) = true := beq_iff_eq.mpr c53
           have c53b1 : (t236 != 1) = false := bne_eq_false_iff_eq.mpr c53
           clear c53
           by_cases c54 : 0 ≤ t235
           ·
            rw [if_pos c54] at H
            have c54b0 : decide (0 ≤ t235) = true := decide_eq_true c54
            clear c54
            by_cases c55 : t235 < (t226.length : Int)
            ·
             rw [if_pos c55] at H
             have c55b0 : decide (t235 < (t226.length : Int)) = true := decide_eq_true c55
             clear c55
             obtain ⟨y241, hy241⟩ : ∃ y_ : List (S30), y_ = (t226.set (t235 : Int).toNat (⟨(rd_T30 t226 t235).f0, a3, (rd_T30 t226 t235).f2⟩ : S30)) := ⟨_, rfl⟩
             replace H : ((group_Check.f kj16 y241 t227).bind fun t242 => ((busbarref12_Groups.f kj16 y241 t227).bind fun t243 => (some (t242 == t243)))) = some r := by first | (rw [hy241]; with_reducible exact H) | (have H2_ := (Option.bind_some _ _).symm.trans H; rw [hy241]; with_reducible exact H2_) | (have H2_ := (Option.bind_some _ _).symm.trans H; with_reducible exact H2_) | with_reducible exact H | (rw [hy241]; exact H) | exact H
             have Ny241 := Aside0.mk hy241
             clear hy241
             replace H := Option.bind_eq_some_iff.mp H
             obtain ⟨t242, A570, H⟩ := H
             replace H : ((busbarref12_Groups.f kj16 y241 t227).bind fun t243 => (some (t242 == t243))) = some r := H
             have A57 := Aside0.mk A570
             clear A570
             replace H := Option.bind_eq_some_iff.mp H
             obtain ⟨t243, A580, H⟩ := H
             replace H : (some (t242 == t243)) = some r := H
             have A58 := Aside0.mk A580
             clear A580
             obtain rfl := Option.some.inj H
             obtain ⟨Ao59, co59, eo59⟩ := Kd.R_slice HO_10.out
             subst eo59
             go_wp2_with (first | ((with_reducible refine gate_callee (f := 17) rfl ?_); refine goesL_ (some 54) rfl rfl Try.func17 (by kernel_rfl) rfl #[.int .i64 a2, .int .i64 4, .int .i64 (t226.length : Int)] rfl (by (try simp only [List.map_toArray, List.map_cons, List.map_nil]); first | done | rfl | (simp only [List.length_drop, List.length_take]; rfl)) ?_; (with_reducible refine (busbarlaw0_Digit.calls a2 4 (t226.length : Int) t235 _ A38.out).mono ?_); rintro e w' ⟨rfl, ⟨nd, rfl⟩⟩; refine ⟨_, rfl, ?_⟩; (try (rw [drewN_self wc]; generalize hq_ : World.drewN wc _ = wc; have n0_ : Aside0 (Kd.R k30 30 wc w.heap.size (fun _ => True) (.slice Ao59 t226.length co59) t226) := ⟨by rw [← hq_]; exact (by (with_reducible repeat (first | apply Kd.R_alloc | apply Kd.R_drewN | apply Kd.R_drew)); exact HO_10.out)⟩; have n1_ : Aside0 (Kd.R k32 32 wc w.heap.size (fun _ => True) v230 t227) := ⟨by rw [← hq_]; exact (by (with_reducible repeat (first | apply Kd.R_alloc | apply Kd.R_drewN | apply Kd.R_drew)); exact HO_11.out)⟩; have n2_ : Aside0 (Below w.heap.size w wc) := ⟨by rw [← hq_]; exact (by repeat (first | (with_reducible first | exact HB.out | apply below_alloc | apply pw_below_drewN | apply below_drew1) | exact HB.out))⟩; clear HO_10 HO_11 HB hq_; have HO_10 := n0_; have HO_11 := n1_; have HB := n2_; clear n0_ n1_ n2_))) | ((with_reducible refine gate_callee (f := 14) rfl ?_); refine goesL_ (some 56) rfl rfl Try.func14 (by kernel_rfl) rfl #[.int .i64 a2, .int .i64 4] rfl (by (try simp only [List.map_toArray, List.map_cons, List.map_nil]); first | done | rfl | (simp only [List.length_drop, List.length_take]; rfl)) ?_; (with_reducible refine (busbarlaw0_Within.calls a2 4 t236 _ A39.out).mono ?_); rintro e w' ⟨rfl, ⟨nd, rfl⟩⟩; refine ⟨_, rfl, ?_⟩; (try (rw [drewN_self wc]; generalize hq_ : World.drewN wc _ = wc; have n0_ : Aside0 (Kd.R k30 30 wc w.heap.size (fun _ => True) (.slice Ao59 t226.length co59) t226) := ⟨by rw [← hq_]; exact (by (with_reducible repeat (first | apply Kd.R_alloc | apply Kd.R_drewN | apply Kd.R_drew)); exact HO_10.out)⟩; have n1_ : Aside0 (Kd.R k32 32 wc w.heap.size (fun _ => True) v230 t227) := ⟨by rw [← hq_]; exact (by (with_reducible repeat (first | apply Kd.R_alloc | apply Kd.R_drewN | apply Kd.R_drew)); exact HO_11.out)⟩; have n2_ : Aside0 (Below w.heap.size w wc) := ⟨by rw [← hq_]; exact (by repeat (first | (with_reducible first | exact HB.out | apply below_alloc | apply pw_below_drewN | apply below_drew1) | exact HB.out))⟩; clear HO_10 HO_11 HB hq_; have HO_10 := n0_; have HO_11 := n1_; have HB := n2_; clear n0_ n1_ n2_)); have p56 : 0 ≤ (t235 : Int) := of_decide_eq_true (by first | (with_reducible assumption) | assumption); have q56 : (t235 : Int) < ((t226.length : Int) : Int) := of_decide_eq_true (by first | (with_reducible assumption) | assumption); obtain ⟨go56, co56, eo56, gb56, gl56, cl56, HG56⟩ := Kd.R_form HO_10.out (by omega); (first | cases eo56 | (injection eo56 with ea_ en_ ec_; (first | subst ea_ | (injection ea_ with ea_; subst ea_)); subst ec_; clear en_)); have GB56 := Aside0.mk gb56; have GG56 := Aside0.mk HG56; clear gb56 gl56 HG56; obtain ⟨ce56, hcl56, hM56, hcc56, hfr56⟩ := Kd.R_elem HO_10.out z30 (t235 : Int) p56 q56; obtain rfl := k30_openM hM56; have hx56_0 : wc.cell? ⟨go56, (t235 : Int).toNat * 3, none⟩ = some (.int .i64 ((rd_T30 t226 t235).f0)) := hcc56 0 _ rfl; have hx56_1 : wc.cell? ⟨go56, (t235 : Int).toNat * 3 + 1, none⟩ = some (.int .i64 ((rd_T30 t226 t235).f1)) := hcc56 1 _ rfl; have hx56_2 : wc.cell? ⟨go56, (t235 : Int).toNat * 3 + 2, none⟩ = some (.int .i64 ((rd_T30 t226 t235).f2)) := hcc56 2 _ rfl; have hf56_0 : wc.frozen? ⟨go56, (t235 : Int).toNat * 3, none⟩ = false := hfr56 0; have hf56_1 : wc.frozen? ⟨go56, (t235 : Int).toNat * 3 + 1, none⟩ = false := hfr56 1; have hf56_2 : wc.frozen? ⟨go56, (t235 : Int).toNat * 3 + 2, none⟩ = false := hfr56 2; clear hcl56 hcc56 hfr56 hM56; replace p56 := eq_true p56; replace q56 := eq_true q56; have HX60 := Aside0.mk (show Kd.R k30 30 wc w.heap.size (fun _ => True) (.slice (some ⟨go56, 0, none⟩) t226.length co59) t226 from (by (with_reducible repeat (first | apply Kd.R_alloc | apply Kd.R_drewN | apply Kd.R_drew)); exact HO_10.out)); obtain ⟨ce60, hcl60, hM60, hcc60, hfr60⟩ := Kd.R_elem HX60.out z30 (t235 : Int) (of_decide_eq_true (by first | (with_reducible assumption) | assumption)) (by have h_ : (t235 : Int) < ((t226.length : Int) : Int) := of_decide_eq_true (by first | (with_reducible assumption) | assumption); first | exact h_ | (have e_ := (Kd.R_reads' HO_10.out).1; omega) | simpa using h_); obtain rfl := k30_openM hM60; have HP60 := Kd.R_seg HX60.out (t235 : Int) (of_decide_eq_true (by first | (with_reducible assumption) | assumption)) (by have h_ : (t235 : Int) < ((t226.length : Int) : Int) := of_decide_eq_true (by first | (with_reducible assumption) | assumption); first | exact h_ | (have e_ := (Kd.R_reads' HO_10.out).1; omega) | simpa using h_) (seg := [.int .i64 a3]) (j := 1) hcl60 hcc60 (show 2 ≤ 3 from by decide) (x' := (⟨(rd_T30 t226 t235).f0, a3, (rd_T30 t226 t235).f2⟩ : S30)) (k30_mkM _ _ _ (⟨(rd_T30 t226 t235).f0, a3, (rd_T30 t226 t235).f2⟩ : S30) ) (fun _ hk => hk); have hx60_1 := hcc60 1 _ rfl; (try simp only [show (k30).sz = 3 from rfl, Nat.mul_one, Nat.add_zero] at hx60_1); have hf60_1 := hfr60 1; (try simp only [show (k30).sz = 3 from rfl, Nat.mul_one, Nat.add_zero] at hf60_1); clear hcl60 hcc60 hfr60 hM60) | ((with_reducible refine gate_store (t := 3) (p := 72) rfl ?_); refine store_event (t := 3) (p := 72) (v := ?vo_w61) (w1 := (wc.setCell ⟨go56, (t235 : Int).toNat * 3 + 1, none⟩ (.int .i64 a3))) ?hg ?ho ?hn ?hr ?_; (case ho => rfl); (case hg => rfl); (case hn => rfl); (case hr => first | (go_simp; done) | (go_simp; rfl)); intro w61 hw; have hg : wc.grownBy w61 (some go56) := (by rw [hw]; exact HP60.2); have hp_ : Kd.R k30 30 w61 w.heap.size (fun _ => True) (.slice (some ⟨go56, 0, none⟩) t226.length co59) y241 := (by rw [hw, Ny241.out]; exact HP60.1); clear HP60; have n0_ := Aside0.mk (hp_); have n1_ := Aside0.mk (Kd.R_over' (v := (.slice (some ⟨go56, 0, none⟩) t226.length co59)) (by (with_reducible repeat (first | apply Kd.R_alloc | apply Kd.R_drewN | apply Kd.R_drew)); exact HO_11.out) (Kd.R_typed HO_10.out) (by decide) hg); have n2_ := Aside0.mk ((by rw [hw]; exact below_set (HB.out) GB56.out : Below w.heap.size w w61)); clear HO_10; clear HO_11; clear HB; have HO_10 := n0_; have HO_11 := n1_; have HB := n2_; clear n0_ n1_ n2_; clear hg hw hp_; obtain ⟨Ao62, co62, eo62⟩ := Kd.R_slice HO_11.out; subst eo62) | ((with_reducible refine gate_callee (f := 38) rfl ?_); refine goesL_ (some 92) rfl rfl Try.func38 (by kernel_rfl) rfl #[.slice (some ⟨go56, 0, none⟩) y241.length co59, .slice Ao62 t227.length co62] rfl (by (try simp only [List.map_toArray, List.map_cons, List.map_nil]); first | done | (rw [show y241.length = t226.length from (Kd.R_reads' HO_10.out).1.symm] <;> rfl) | rfl | (simp only [List.length_drop, List.length_take]; rfl)) ?_; (with_reducible refine (group_Check.calls kj16 _ _ y241 _ _ t227 t242 _ ?side1 ?side2 ?side3 ?side4 A57.out).mono ?_); (case side1 => repeat (first | exact (Kd.R_reads' HO_10.out).2.2 | (with_reducible refine Kd.C_alloc ?_ _) | (with_reducible refine Kd.C_drewN ?_ _) | (with_reducible refine Kd.C_drew ?_))); (case side2 => rw [show y241.length = t226.length from (Kd.R_reads' HO_10.out).1.symm]; exact (Kd.R_reads' HO_10.out).2.1); (case side3 => repeat (first | exact (Kd.R_reads' HO_11.out).2.2 | (with_reducible refine Kd.C_alloc ?_ _) | (with_reducible refine Kd.C_drewN ?_ _) | (with_reducible refine Kd.C_drew ?_))); (case side4 => exact (Kd.R_reads' HO_11.out).2.1); rintro e w63 ⟨rfl, hb⟩; refine ⟨_, rfl, ?_⟩; have n0_ := Aside0.mk (Kd.R_below (by (with_reducible repeat (first | apply Kd.R_alloc | apply Kd.R_drewN | apply Kd.R_drew)); exact HO_10.out) hb); have n1_ := Aside0.mk (Kd.R_below (by (with_reducible repeat (first | apply Kd.R_alloc | apply Kd.R_drewN | apply Kd.R_drew)); exact HO_11.out) hb); have n2_ := Aside0.mk (below_step (by repeat (first | (with_reducible first | exact HB.out | apply below_alloc | apply pw_below_drewN | apply below_drew1) | exact HB.out)) hb); clear HO_10; clear HO_11; clear HB; have HO_10 := n0_; have HO_11 := n1_; have HB := n2_; clear n0_ n1_ n2_; (try clear hb); (try clear hb2); (try clear hk); (try clear hi)) | ((with_reducible refine gate_callee (f := 39) rfl ?_); refine goesL_ (some 95) rfl rfl Try.func39 (by kernel_rfl) rfl #[.slice (some ⟨go56, 0, none⟩) y241.length co59, .slice Ao62 t227.length co62] rfl (by (try simp only [List.map_toArray, List.map_cons, List.map_nil]); first | done | (rw [show y241.length = t226.length from (Kd.R_reads' HO_10.out).1.symm] <;> rfl) | rfl | (simp only [List.length_drop, List.length_take]; rfl)) ?_; (with_reducible refine (busbarref12_Groups.calls kj16 _ _ y241 _ _ t227 t243 _ ?side1 ?side2 ?side3 ?side4 A58.out).mono ?_); (case side1 => repeat (first | exact (Kd.R_reads' HO_10.out).2.2 | (with_reducible refine Kd.C_alloc ?_ _) | (with_reducible refine Kd.C_drewN ?_ _) | (with_reducible refine Kd.C_drew ?_))); (case side2 => rw [show y241.length = t226.length from (Kd.R_reads' HO_10.out).1.symm]; exact (Kd.R_reads' HO_10.out).2.1); (case side3 => repeat (first | exact (Kd.R_reads' HO_11.out).2.2 | (with_reducible refine Kd.C_alloc ?_ _) | (with_reducible refine Kd.C_drewN ?_ _) | (with_reducible refine Kd.C_drew ?_))); (case side4 => exact (Kd.R_reads' HO_11.out).2.1); rintro e w64 ⟨rfl, hb⟩; refine ⟨_, rfl, ?_⟩; have n0_ := Aside0.mk (Kd.R_below (by (with_reducible repeat (first | apply Kd.R_alloc | apply Kd.R_drewN | apply Kd.R_drew)); exact HO_10.out) hb); have n1_ := Aside0.mk (Kd.R_below (by (with_reducible repeat (first | apply Kd.R_alloc | apply Kd.R_drewN | apply Kd.R_drew)); exact HO_11.out) hb); have n2_ := Aside0.mk (below_step (by repeat (first | (with_reducible first | exact HB.out | apply below_alloc | apply pw_below_drewN | apply below_drew1) | exact HB.out)) hb); clear HO_10; clear HO_11; clear HB; have HO_10 := n0_; have HO_11 := n1_; have HB := n2_; clear n0_ n1_ n2_; (try clear hb); (try clear hb2); (try clear hk); (try clear hi)))
             go_ret
             exact ⟨by first | rfl | (simp [errW_none, errW_some] <;> rfl) | (simp [*, errW_none, errW_some] <;> rfl), by repeat (first | (with_reducible first | exact HB.out | apply below_alloc | apply pw_below_drewN | apply below_drew1) | exact HB.out)⟩
            ·
             rw [if_neg c55] at H
             exact absurd H (by simp)
           ·
            rw [if_neg c54] at H
            exact absurd H (by simp)
          ·
           rw [if_neg c53] at H
           have c53b0 : (t236 == 1) = false := beq_eq_false_iff_ne.mpr c53
           have c53b1 : (t236 != 1) = true := bne_iff_ne.mpr c53
           by_cases c65 : t236 = 2
           ·
            rw [if_pos c65] at H
            have c65b0 : (t236 == 2) = true := beq_iff_eq.mpr c65
            have c65b1 : (t236 != 2) = false := bne_eq_false_iff_eq.mpr c65
            clear c65
            replace H := Option.bind_eq_some_iff.mp H
            obtain ⟨t244, A660, H⟩ := H
            replace H : (if 0 ≤ t235 then (if t235 < (t226.length : Int) then ((some (t226.set (t235 : Int).toNat (⟨(rd_T30 t226 t235).f0, (rd_T30 t226 t235).f1, wrap64 (t244 - 1)⟩ : S30) : List (S30))).bind fun y245 => ((group_Check.f kj16 y245 t227).bind fun t246 => ((busbarref12_Groups.f kj16 y245 t227).bind fun t247 => (some (t246 == t247))))) else (none)) else (none)) = some r := H
            have A66 := Aside0.mk A660
            clear A660
            by_cases c67 : 0 ≤ t235
            ·
             rw [if_pos c67] at H
             have c67b0 : decide (0 ≤ t235) = true := decide_eq_true c67
             clear c67
             by_cases c68 : t235 < (t226.length : Int)
             ·
              rw [if_pos c68] at H
              have c68b0 : decide (t235 < (t226.length : Int)) = true := decide_eq_true c68
              clear c68
              obtain ⟨y245, hy245⟩ : ∃ y_ : List (S30), y_ = (t226.set (t235 : Int).toNat (⟨(rd_T30 t226 t235).f0, (rd_T30 t226 t235).f1, wrap64 (t244 - 1)⟩ : S30)) := ⟨_, rfl⟩
              replace H : ((group_Check.f kj16 y245 t227).bind fun t246 => ((busbarref12_Groups.f kj16 y245 t227).bind fun t247 => (some (t246 == t247)))) = some r := by first | (rw [hy245]; with_reducible exact H) | (have H2_ := (Option.bind_some _ _).symm.trans H; rw [hy245]; with_reducible exact H2_) | (have H2_ := (Option.bind_some _ _).symm.trans H; with_reducible exact H2_) | with_reducible exact H | (rw [hy245]; exact H) | exact H
              have Ny245 := Aside0.mk hy245
              clear hy245
              replace H := Option.bind_eq_some_iff.mp H
              obtain ⟨t246, A700, H⟩ := H
              replace H : ((busbarref12_Groups.f kj16 y245 t227).bind fun t247 => (some (t246 == t247))) = some r := H
              have A70 := Aside0.mk A700
              clear A700
              replace H := Option.bind_eq_some_iff.mp H
              obtain ⟨t247, A710, H⟩ := H
              replace H : (some (t246 == t247)) = some r := H
              have A71 := Aside0.mk A710
              clear A710
              obtain rfl := Option.some.inj H
              obtain ⟨Ao72, co72, eo72⟩ := Kd.R_slice HO_10.out
              subst eo72
              go_wp2_with (first | ((with_reducible refine gate_callee (f := 17) rfl ?_); refine goesL_ (some 54) rfl rfl Try.func17 (by kernel_rfl) rfl #[.int .i64 a2, .int .i64 4, .int .i64 (t226.length : Int)] rfl (by (try simp only [List.map_toArray, List.map_cons, List.map_nil]); first | done | rfl | (simp only [List.length_drop, List.length_take]; rfl)) ?_; (with_reducible refine (busbarlaw0_Digit.calls a2 4 (t226.length : Int) t235 _ A38.out).mono ?_); rintro e w' ⟨rfl, ⟨nd, rfl⟩⟩; refine ⟨_, rfl, ?_⟩; (try (rw [drewN_self wc]; generalize hq_ : World.drewN wc _ = wc; have n0_ : Aside0 (Kd.R k30 30 wc w.heap.size (fun _ => True) (.slice Ao72 t226.length co72) t226) := ⟨by rw [← hq_]; exact (by (with_reducible repeat (first | apply Kd.R_alloc | apply Kd.R_drewN | apply Kd.R_drew)); exact HO_10.out)⟩; have n1_ : Aside0 (Kd.R k32 32 wc w.heap.size (fun _ => True) v230 t227) := ⟨by rw [← hq_]; exact (by (with_reducible repeat (first | apply Kd.R_alloc | apply Kd.R_drewN | apply Kd.R_drew)); exact HO_11.out)⟩; have n2_ : Aside0 (Below w.heap.size w wc) := ⟨by rw [← hq_]; exact (by repeat (first | (with_reducible first | exact HB.out | apply below_alloc | apply pw_below_drewN | apply below_drew1) | exact HB.out))⟩; clear HO_10 HO_11 HB hq_; have HO_10 := n0_; have HO_11 := n1_; have HB := n2_; clear n0_ n1_ n2_))) | ((with_reducible refine gate_callee (f := 14) rfl ?_); refine goesL_ (some 56) rfl rfl Try.func14 (by kernel_rfl) rfl #[.int .i64 a2, .int .i64 4] rfl (by (try simp only [List.map_toArray, List.map_cons, List.map_nil]); first | done | rfl | (simp only [List.length_drop, List.length_take]; rfl)) ?_; (with_reducible refine (busbarlaw0_Within.calls a2 4 t236 _ A39.out).mono ?_); rintro e w' ⟨rfl, ⟨nd, rfl⟩⟩; refine ⟨_, rfl, ?_⟩; (try (rw [drewN_self wc]; generalize hq_ : World.drewN wc _ = wc; have n0_ : Aside0 (Kd.R k30 30 wc w.heap.size (fun _ => True) (.slice Ao72 t226.length co72) t226) := ⟨by rw [← hq_]; exact (by (with_reducible repeat (first | apply Kd.R_alloc | apply Kd.R_drewN | apply Kd.R_drew)); exact HO_10.out)⟩; have n1_ : Aside0 (Kd.R k32 32 wc w.heap.size (fun _ => True) v230 t227) := ⟨by rw [← hq_]; exact (by (with_reducible repeat (first | apply Kd.R_alloc | apply Kd.R_drewN | apply Kd.R_drew)); exact HO_11.out)⟩; have n2_ : Aside0 (Below w.heap.size w wc) := ⟨by rw [← hq_]; exact (by repeat (first | (with_reducible first | exact HB.out | apply below_alloc | apply pw_below_drewN | apply below_drew1) | exact HB.out))⟩; clear HO_10 HO_11 HB hq_; have HO_10 := n0_; have HO_11 := n1_; have HB := n2_; clear n0_ n1_ n2_))) | ((with_reducible refine gate_callee (f := 14) rfl ?_); refine goesL_ (some 78) rfl rfl Try.func14 (by kernel_rfl) rfl #[.int .i64 a3, .int .i64 7] rfl (by (try simp only [List.map_toArray, List.map_cons, List.map_nil]); first | done | rfl | (simp only [List.length_drop, List.length_take]; rfl)) ?_; (with_reducible refine (busbarlaw0_Within.calls a3 7 t244 _ A66.out).mono ?_); rintro e w' ⟨rfl, ⟨nd, rfl⟩⟩; refine ⟨_, rfl, ?_⟩; (try (rw [drewN_self wc]; generalize hq_ : World.drewN wc _ = wc; have n0_ : Aside0 (Kd.R k30 30 wc w.heap.size (fun _ => True) (.slice Ao72 t226.length co72) t226) := ⟨by rw [← hq_]; exact (by (with_reducible repeat (first | apply Kd.R_alloc | apply Kd.R_drewN | apply Kd.R_drew)); exact HO_10.out)⟩; have n1_ : Aside0 (Kd.R k32 32 wc w.heap.size (fun _ => True) v230 t227) := ⟨by rw [← hq_]; exact (by (with_reducible repeat (first | apply Kd.R_alloc | apply Kd.R_drewN | apply Kd.R_drew)); exact HO_11.out)⟩; have n2_ : Aside0 (Below w.heap.size w wc) := ⟨by rw [← hq_]; exact (by repeat (first | (with_reducible first | exact HB.out | apply below_alloc | apply pw_below_drewN | apply below_drew1) | exact HB.out))⟩; clear HO_10 HO_11 HB hq_; have HO_10 := n0_; have HO_11 := n1_; have HB := n2_; clear n0_ n1_ n2_)); have p69 : 0 ≤ (t235 : Int) := of_decide_eq_true (by first | (with_reducible assumption) | assumption); have q69 : (t235 : Int) < ((t226.length : Int) : Int) := of_decide_eq_true (by first | (with_reducible assumption) | assumption); obtain ⟨go69, co69, eo69, gb69, gl69, cl69, HG69⟩ := Kd.R_form HO_10.out (by omega); (first | cases eo69 | (injection eo69 with ea_ en_ ec_; (first | subst ea_ | (injection ea_ with ea_; subst ea_)); subst ec_; clear en_)); have GB69 := Aside0.mk gb69; have GG69 := Aside0.mk HG69; clear gb69 gl69 HG69; obtain ⟨ce69, hcl69, hM69, hcc69, hfr69⟩ := Kd.R_elem HO_10.out z30 (t235 : Int) p69 q69; obtain rfl := k30_openM hM69; have hx69_0 : wc.cell? ⟨go69, (t235 : Int).toNat * 3, none⟩ = some (.int .i64 ((rd_T30 t226 t235).f0)) := hcc69 0 _ rfl; have hx69_1 : wc.cell? ⟨go69, (t235 : Int).toNat * 3 + 1, none⟩ = some (.int .i64 ((rd_T30 t226 t235).f1)) := hcc69 1 _ rfl; have hx69_2 : wc.cell? ⟨go69, (t235 : Int).toNat * 3 + 2, none⟩ = some (.int .i64 ((rd_T30 t226 t235).f2)) := hcc69 2 _ rfl; have hf69_0 : wc.frozen? ⟨go69, (t235 : Int).toNat * 3, none⟩ = false := hfr69 0; have hf69_1 : wc.frozen? ⟨go69, (t235 : Int).toNat * 3 + 1, none⟩ = false := hfr69 1; have hf69_2 : wc.frozen? ⟨go69, (t235 : Int).toNat * 3 + 2, none⟩ = false := hfr69 2; clear hcl69 hcc69 hfr69 hM69; replace p69 := eq_true p69; replace q69 := eq_true q69; have HX73 := Aside0.mk (show Kd.R k30 30 wc w.heap.size (fun _ => True) (.slice (some ⟨go69, 0, none⟩) t226.length co72) t226 from (by (with_reducible repeat (first | apply Kd.R_alloc | apply Kd.R_drewN | apply Kd.R_drew)); exact HO_10.out)); obtain ⟨ce73, hcl73, hM73, hcc73, hfr73⟩ := Kd.R_elem HX73.out z30 (t235 : Int) (of_decide_eq_true (by first | (with_reducible assumption) | assumption)) (by have h_ : (t235 : Int) < ((t226.length : Int) : Int) := of_decide_eq_true (by first | (with_reducible assumption) | assumption); first | exact h_ | (have e_ := (Kd.R_reads' HO_10.out).1; omega) | simpa using h_); obtain rfl := k30_openM hM73; have HP73 := Kd.R_seg HX73.out (t235 : Int) (of_decide_eq_true (by first | (with_reducible assumption) | assumption)) (by have h_ : (t235 : Int) < ((t226.length : Int) : Int) := of_decide_eq_true (by first | (with_reducible assumption) | assumption); first | exact h_ | (have e_ := (Kd.R_reads' HO_10.out).1; omega) | simpa using h_) (seg := [.int .i64 (wrap64 (t244 - 1))]) (j := 2) hcl73 hcc73 (show 3 ≤ 3 from by decide) (x' := (⟨(rd_T30 t226 t235).f0, (rd_T30 t226 t235).f1, wrap64 (t244 - 1)⟩ : S30)) (k30_mkM _ _ _ (⟨(rd_T30 t226 t235).f0, (rd_T30 t226 t235).f1, wrap64 (t244 - 1)⟩ : S30) ) (fun _ hk => hk); have hx73_2 := hcc73 2 _ rfl; (try simp only [show (k30).sz = 3 from rfl, Nat.mul_one, Nat.add_zero] at hx73_2); have hf73_2 := hfr73 2; (try simp only [show (k30).sz = 3 from rfl, Nat.mul_one, Nat.add_zero] at hf73_2); clear hcl73 hcc73 hfr73 hM73) | ((with_reducible refine gate_store (t := 3) (p := 81) rfl ?_); refine store_event (t := 3) (p := 81) (v := ?vo_w74) (w1 := (wc.setCell ⟨go69, (t235 : Int).toNat * 3 + 2, none⟩ (.int .i64 (wrap64 (t244 - 1))))) ?hg ?ho ?hn ?hr ?_; (case ho => rfl); (case hg => rfl); (case hn => rfl); (case hr => first | (go_simp; done) | (go_simp; rfl)); intro w74 hw; have hg : wc.grownBy w74 (some go69) := (by rw [hw]; exact HP73.2); have hp_ : Kd.R k30 30 w74 w.heap.size (fun _ => True) (.slice (some ⟨go69, 0, none⟩) t226.length co72) y245 := (by rw [hw, Ny245.out]; exact HP73.1); clear HP73; have n0_ := Aside0.mk (hp_); have n1_ := Aside0.mk (Kd.R_over' (v := (.slice (some ⟨go69, 0, none⟩) t226.length co72)) (by (with_reducible repeat (first | apply Kd.R_alloc | apply Kd.R_drewN | apply Kd.R_drew)); exact HO_11.out) (Kd.R_typed HO_10.out) (by decide) hg); have n2_ := Aside0.mk ((by rw [hw]; exact below_set (HB.out) GB69.out : Below w.heap.size w w74)); clear HO_10; clear HO_11; clear HB; have HO_10 := n0_; have HO_11 := n1_; have HB := n2_; clear n0_ n1_ n2_; clear hg hw hp_; obtain ⟨Ao75, co75, eo75⟩ := Kd.R_slice HO_11.out; subst eo75) | ((with_reducible refine gate_callee (f := 38) rfl ?_); refine goesL_ (some 92) rfl rfl Try.func38 (by kernel_rfl) rfl #[.slice (some ⟨go69, 0, none⟩) y245.length co72, .slice Ao75 t227.length co75] rfl (by (try simp only [List.map_toArray, List.map_cons, List.map_nil]); first | done | (rw [show y245.length = t226.length from (Kd.R_reads' HO_10.out).1.symm] <;> rfl) | rfl | (simp only [List.length_drop, List.length_take]; rfl)) ?_; (with_reducible refine (group_Check.calls kj16 _ _ y245 _ _ t227 t246 _ ?side1 ?side2 ?side3 ?side4 A70.out).mono ?_); (case side1 => repeat (first | exact (Kd.R_reads' HO_10.out).2.2 | (with_reducible refine Kd.C_alloc ?_ _) | (with_reducible refine Kd.C_drewN ?_ _) | (with_reducible refine Kd.C_drew ?_))); (case side2 => rw [show y245.length = t226.length from (Kd.R_reads' HO_10.out).1.symm]; exact (Kd.R_reads' HO_10.out).2.1); (case side3 => repeat (first | exact (Kd.R_reads' HO_11.out).2.2 | (with_reducible refine Kd.C_alloc ?_ _) | (with_reducible refine Kd.C_drewN ?_ _) | (with_reducible refine Kd.C_drew ?_))); (case side4 => exact (Kd.R_reads' HO_11.out).2.1); rintro e w76 ⟨rfl, hb⟩; refine ⟨_, rfl, ?_⟩; have n0_ := Aside0.mk (Kd.R_below (by (with_reducible repeat (first | apply Kd.R_alloc | apply Kd.R_drewN | apply Kd.R_drew)); exact HO_10.out) hb); have n1_ := Aside0.mk (Kd.R_below (by (with_reducible repeat (first | apply Kd.R_alloc | apply Kd.R_drewN | apply Kd.R_drew)); exact HO_11.out) hb); have n2_ := Aside0.mk (below_step (by repeat (first | (with_reducible first | exact HB.out | apply below_alloc | apply pw_below_drewN | apply below_drew1) | exact HB.out)) hb); clear HO_10; clear HO_11; clear HB; have HO_10 := n0_; have HO_11 := n1_; have HB := n2_; clear n0_ n1_ n2_; (try clear hb); (try clear hb2); (try clear hk); (try clear hi)) | ((with_reducible refine gate_callee (f := 39) rfl ?_); refine goesL_ (some 95) rfl rfl Try.func39 (by kernel_rfl) rfl #[.slice (some ⟨go69, 0, none⟩) y245.length co72, .slice Ao75 t227.length co75] rfl (by (try simp only [List.map_toArray, List.map_cons, List.map_nil]); first | done | (rw [show y245.length = t226.length from (Kd.R_reads' HO_10.out).1.symm] <;> rfl) | rfl | (simp only [List.length_drop, List.length_take]; rfl)) ?_; (with_reducible refine (busbarref12_Groups.calls kj16 _ _ y245 _ _ t227 t247 _ ?side1 ?side2 ?side3 ?side4 A71.out).mono ?_); (case side1 => repeat (first | exact (Kd.R_reads' HO_10.out).2.2 | (with_reducible refine Kd.C_alloc ?_ _) | (with_reducible refine Kd.C_drewN ?_ _) | (with_reducible refine Kd.C_drew ?_))); (case side2 => rw [show y245.length = t226.length from (Kd.R_reads' HO_10.out).1.symm]; exact (Kd.R_reads' HO_10.out).2.1); (case side3 => repeat (first | exact (Kd.R_reads' HO_11.out).2.2 | (with_reducible refine Kd.C_alloc ?_ _) | (with_reducible refine Kd.C_drewN ?_ _) | (with_reducible refine Kd.C_drew ?_))); (case side4 => exact (Kd.R_reads' HO_11.out).2.1); rintro e w77 ⟨rfl, hb⟩; refine ⟨_, rfl, ?_⟩; have n0_ := Aside0.mk (Kd.R_below (by (with_reducible repeat (first | apply Kd.R_alloc | apply Kd.R_drewN | apply Kd.R_drew)); exact HO_10.out) hb); have n1_ := Aside0.mk (Kd.R_below (by (with_reducible repeat (first | apply Kd.R_alloc | apply Kd.R_drewN | apply Kd.R_drew)); exact HO_11.out) hb); have n2_ := Aside0.mk (below_step (by repeat (first | (with_reducible first | exact HB.out | apply below_alloc | apply pw_below_drewN | apply below_drew1) | exact HB.out)) hb); clear HO_10; clear HO_11; clear HB; have HO_10 := n0_; have HO_11 := n1_; have HB := n2_; clear n0_ n1_ n2_; (try clear hb); (try clear hb2); (try clear hk); (try clear hi)))
              go_ret
              exact ⟨by first | rfl | (simp [errW_none, errW_some] <;> rfl) | (simp [*, errW_none, errW_some] <;> rfl), by repeat (first | (with_reducible first | exact HB.out | apply below_alloc | apply pw_below_drewN | apply below_drew1) | exact HB.out)⟩
             ·
              rw [if_neg c68] at H
              exact absurd H (by simp)
            ·
             rw [if_neg c67] at H
             exact absurd H (by simp)
           ·
            rw [if_neg c65] at H
            have c65b0 : (t236 == 2) = false := beq_eq_false_iff_ne.mpr c65
            have c65b1 : (t236 != 2) = true := bne_iff_ne.mpr c65
            by_cases c78 : t236 = 3
            ·
             rw [if_pos c78] at H
             have c78b0 : (t236 == 3) = true := beq_iff_eq.mpr c78
             have c78b1 : (t236 != 3) = false := bne_eq_false_iff_eq.mpr c78
             clear c78
             replace H := Option.bind_eq_some_iff.mp H
             obtain ⟨t248, A790, H⟩ := H
             replace H : (if 0 ≤ t235 then (if t235 < (t226.length : Int) then ((some (t226.set (t235 : Int).toNat (⟨(rd_T30 t226 t235).f0, t248, (rd_T30 t226 t235).f2⟩ : S30) : List (S30))).bind fun y249 => ((group_Check.f kj16 y249 t227).bind fun t250 => ((busbarref12_Groups.f kj16 y249 t227).bind fun t251 => (some (t250 == t251))))) else (none)) else (none)) = some r := H
             have A79 := Aside0.mk A790
             clear A790
             by_cases c80 : 0 ≤ t235
             ·
              rw [if_pos c80] at H
              have c80b0 : decide (0 ≤ t235) = true := decide_eq_true c80
              clear c80
              by_cases c81 : t235 < (t226.length : Int)
              ·
               rw [if_pos c81] at H
               have c81b0 : decide (t235 < (t226.length : Int)) = true := decide_eq_true c81
               clear c81
               obtain ⟨y249, hy249⟩ : ∃ y_ : List (S30), y_ = (t226.set (t235 : Int).toNat (⟨(rd_T30 t226 t235).f0, t248, (rd_T30 t226 t235).f2⟩ : S30)) := ⟨_, rfl⟩
               replace H : ((group_Check.f kj16 y249 t227).bind fun t250 => ((busbarref12_Groups.f kj16 y249 t227).bind fun t251 => (some (t250 == t251)))) = some r := by first | (rw [hy249]; with_reducible exact H) | (have H2_ := (Option.bind_some _ _).symm.trans H; rw [hy249]; with_reducible exact H2_) | (have H2_ := (Option.bind_some _ _).symm.trans H; with_reducible exact H2_) | with_reducible exact H | (rw [hy249]; exact H) | exact H
               have Ny249 := Aside0.mk hy249
               clear hy249
               replace H := Option.bind_eq_some_iff.mp H
               obtain ⟨t250, A830, H⟩ := H
               replace H : ((busbarref12_Groups.f kj16 y249 t227).bind fun t251 => (some (t250 == t251))) = some r := H
               have A83 := Aside0.mk A830
               clear A830
               replace H := Option.bind_eq_some_iff.mp H
               obtain ⟨t251, A840, H⟩ := H
               replace H : (some (t250 == t251)) = some r := H
               have A84 := Aside0.mk A840
               clear A840
               obtain rfl := Option.some.inj H
               obtain ⟨Ao85, co85, eo85⟩ := Kd.R_slice HO_10.out
               subst eo85
               go_wp2_with (first | ((with_reducible refine gate_callee (f := 17) rfl ?_); refine goesL_ (some 54) rfl rfl Try.func17 (by kernel_rfl) rfl #[.int .i64 a2, .int .i64 4, .int .i64 (t226.length : Int)] rfl (by (try simp only [List.map_toArray, List.map_cons, List.map_nil]); first | done | rfl | (simp only [List.length_drop, List.length_take]; rfl)) ?_; (with_reducible refine (busbarlaw0_Digit.calls a2 4 (t226.length : Int) t235 _ A38.out).mono ?_); rintro e w' ⟨rfl, ⟨nd, rfl⟩⟩; refine ⟨_, rfl, ?_⟩; (try (rw [drewN_self wc]; generalize hq_ : World.drewN wc _ = wc; have n0_ : Aside0 (Kd.R k30 30 wc w.heap.size (fun _ => True) (.slice Ao85 t226.length co85) t226) := ⟨by rw [← hq_]; exact (by (with_reducible repeat (first | apply Kd.R_alloc | apply Kd.R_drewN | apply Kd.R_drew)); exact HO_10.out)⟩; have n1_ : Aside0 (Kd.R k32 32 wc w.heap.size (fun _ => True) v230 t227) := ⟨by rw [← hq_]; exact (by (with_reducible repeat (first | apply Kd.R_alloc | apply Kd.R_drewN | apply Kd.R_drew)); exact HO_11.out)⟩; have n2_ : Aside0 (Below w.heap.size w wc) := ⟨by rw [← hq_]; exact (by repeat (first | (with_reducible first | exact HB.out | apply below_alloc | apply pw_below_drewN | apply below_drew1) | exact HB.out))⟩; clear HO_10 HO_11 HB hq_; have HO_10 := n0_; have HO_11 := n1_; have HB := n2_; clear n0_ n1_ n2_))) | ((with_reducible refine gate_callee (f := 14) rfl ?_); refine goesL_ (some 56) rfl rfl Try.func14 (by kernel_rfl) rfl #[.int .i64 a2, .int .i64 4] rfl (by (try simp only [List.map_toArray, List.map_cons, List.map_nil]); first | done | rfl | (simp only [List.length_drop, List.length_take]; rfl)) ?_; (with_reducible refine (busbarlaw0_Within.calls a2 4 t236 _ A39.out).mono ?_); rintro e w' ⟨rfl, ⟨nd, rfl⟩⟩; refine ⟨_, rfl, ?_⟩; (try (rw [drewN_self wc]; generalize hq_ : World.drewN wc _ = wc; have n0_ : Aside0 (Kd.R k30 30 wc w.heap.size (fun _ => True) (.slice Ao85 t226.length co85) t226) := ⟨by rw [← hq_]; exact (by (with_reducible repeat (first | apply Kd.R_alloc | apply Kd.R_drewN | apply Kd.R_drew)); exact HO_10.out)⟩; have n1_ : Aside0 (Kd.R k32 32 wc w.heap.size (fun _ => True) v230 t227) := ⟨by rw [← hq_]; exact (by (with_reducible repeat (first | apply Kd.R_alloc | apply Kd.R_drewN | apply Kd.R_drew)); exact HO_11.out)⟩; have n2_ : Aside0 (Below w.heap.size w wc) := ⟨by rw [← hq_]; exact (by repeat (first | (with_reducible first | exact HB.out | apply below_alloc | apply pw_below_drewN | apply below_drew1) | exact HB.out))⟩; clear HO_10 HO_11 HB hq_; have HO_10 := n0_; have HO_11 := n1_; have HB := n2_; clear n0_ n1_ n2_))) | ((with_reducible refine gate_callee (f := 14) rfl ?_); refine goesL_ (some 87) rfl rfl Try.func14 (by kernel_rfl) rfl #[.int .i64 a3, .int .i64 60] rfl (by (try simp only [List.map_toArray, List.map_cons, List.map_nil]); first | done | rfl | (simp only [List.length_drop, List.length_take]; rfl)) ?_; (with_reducible refine (busbarlaw0_Within.calls a3 60 t248 _ A79.out).mono ?_); rintro e w' ⟨rfl, ⟨nd, rfl⟩⟩; refine ⟨_, rfl, ?_⟩; (try (rw [drewN_self wc]; generalize hq_ : World.drewN wc _ = wc; have n0_ : Aside0 (Kd.R k30 30 wc w.heap.size (fun _ => True) (.slice Ao85 t226.length co85) t226) := ⟨by rw [← hq_]; exact (by (with_reducible repeat (first | apply Kd.R_alloc | apply Kd.R_drewN | apply Kd.R_drew)); exact HO_10.out)⟩; have n1_ : Aside0 (Kd.R k32 32 wc w.heap.size (fun _ => True) v230 t227) := ⟨by rw [← hq_]; exact (by (with_reducible repeat (first | apply Kd.R_alloc | apply Kd.R_drewN | apply Kd.R_drew)); exact HO_11.out)⟩; have n2_ : Aside0 (Below w.heap.size w wc) := ⟨by rw [← hq_]; exact (by repeat (first | (with_reducible first | exact HB.out | apply below_alloc | apply pw_below_drewN | apply below_drew1) | exact HB.out))⟩; clear HO_10 HO_11 HB hq_; have HO_10 := n0_; have HO_11 := n1_; have HB := n2_; clear n0_ n1_ n2_)); have p82 : 0 ≤ (t235 : Int) := of_decide_eq_true (by first | (with_reducible assumption) | assumption); have q82 : (t235 : Int) < ((t226.length : Int) : Int) := of_decide_eq_true (by first | (with_reducible assumption) | assumption); obtain ⟨go82, co82, eo82, gb82, gl82, cl82, HG82⟩ := Kd.R_form HO_10.out (by omega); (first | cases eo82 | (injection eo82 with ea_ en_ ec_; (first | subst ea_ | (injection ea_ with ea_; subst ea_)); subst ec_; clear en_)); have GB82 := Aside0.mk gb82; have GG82 := Aside0.mk HG82; clear gb82 gl82 HG82; obtain ⟨ce82, hcl82, hM82, hcc82, hfr82⟩ := Kd.R_elem HO_10.out z30 (t235 : Int) p82 q82; obtain rfl := k30_openM hM82; have hx82_0 : wc.cell? ⟨go82, (t235 : Int).toNat * 3, none⟩ = some (.int .i64 ((rd_T30 t226 t235).f0)) := hcc82 0 _ rfl; have hx82_1 : wc.cell? ⟨go82, (t235 : Int).toNat * 3 + 1, none⟩ = some (.int .i64 ((rd_T30 t226 t235).f1)) := hcc82 1 _ rfl; have hx82_2 : wc.cell? ⟨go82, (t235 : Int).toNat * 3 + 2, none⟩ = some (.int .i64 ((rd_T30 t226 t235).f2)) := hcc82 2 _ rfl; have hf82_0 : wc.frozen? ⟨go82, (t235 : Int).toNat * 3, none⟩ = false := hfr82 0; have hf82_1 : wc.frozen? ⟨go82, (t235 : Int).toNat * 3 + 1, none⟩ = false := hfr82 1; have hf82_2 : wc.frozen? ⟨go82, (t235 : Int).toNat * 3 + 2, none⟩ = false := hfr82 2; clear hcl82 hcc82 hfr82 hM82; replace p82 := eq_true p82; replace q82 := eq_true q82; have HX86 := Aside0.mk (show Kd.R k30 30 wc w.heap.size (fun _ => True) (.slice (some ⟨go82, 0, none⟩) t226.length co85) t226 from (by (with_reducible repeat (first | apply Kd.R_alloc | apply Kd.R_drewN | apply Kd.R_drew)); exact HO_10.out)); obtain ⟨ce86, hcl86, hM86, hcc86, hfr86⟩ := Kd.R_elem HX86.out z30 (t235 : Int) (of_decide_eq_true (by first | (with_reducible assumption) | assumption)) (by have h_ : (t235 : Int) < ((t226.length : Int) : Int) := of_decide_eq_true (by first | (with_reducible assumption) | assumption); first | exact h_ | (have e_ := (Kd.R_reads' HO_10.out).1; omega) | simpa using h_); obtain rfl := k30_openM hM86; have HP86 := Kd.R_seg HX86.out (t235 : Int) (of_decide_eq_true (by first | (with_reducible assumption) | assumption)) (by have h_ : (t235 : Int) < ((t226.length : Int) : Int) := of_decide_eq_true (by first | (with_reducible assumption) | assumption); first | exact h_ | (have e_ := (Kd.R_reads' HO_10.out).1; omega) | simpa using h_) (seg := [.int .i64 t248]) (j := 1) hcl86 hcc86 (show 2 ≤ 3 from by decide) (x' := (⟨(rd_T30 t226 t235).f0, t248, (rd_T30 t226 t235).f2⟩ : S30)) (k30_mkM _ _ _ (⟨(rd_T30 t226 t235).f0, t248, (rd_T30 t226 t235).f2⟩ : S30) ) (fun _ hk => hk); have hx86_1 := hcc86 1 _ rfl; (try simp only [show (k30).sz = 3 from rfl, Nat.mul_one, Nat.add_zero] at hx86_1); have hf86_1 := hfr86 1; (try simp only [show (k30).sz = 3 from rfl, Nat.mul_one, Nat.add_zero] at hf86_1); clear hcl86 hcc86 hfr86 hM86) | ((with_reducible refine gate_store (t := 3) (p := 89) rfl ?_); refine store_event (t := 3) (p := 89) (v := ?vo_w87) (w1 := (wc.setCell ⟨go82, (t235 : Int).toNat * 3 + 1, none⟩ (.int .i64 t248))) ?hg ?ho ?hn ?hr ?_; (case ho => rfl); (case hg => rfl); (case hn => rfl); (case hr => first | (go_simp; done) | (go_simp; rfl)); intro w87 hw; have hg : wc.grownBy w87 (some go82) := (by rw [hw]; exact HP86.2); have hp_ : Kd.R k30 30 w87 w.heap.size (fun _ => True) (.slice (some ⟨go82, 0, none⟩) t226.length co85) y249 := (by rw [hw, Ny249.out]; exact HP86.1); clear HP86; have n0_ := Aside0.mk (hp_); have n1_ := Aside0.mk (Kd.R_over' (v := (.slice (some ⟨go82, 0, none⟩) t226.length co85)) (by (with_reducible repeat (first | apply Kd.R_alloc | apply Kd.R_drewN | apply Kd.R_drew)); exact HO_11.out) (Kd.R_typed HO_10.out) (by decide) hg); have n2_ := Aside0.mk ((by rw [hw]; exact below_set (HB.out) GB82.out : Below w.heap.size w w87)); clear HO_10; clear HO_11; clear HB; have HO_10 := n0_; have HO_11 := n1_; have HB := n2_; clear n0_ n1_ n2_; clear hg hw hp_; obtain ⟨Ao88, co88, eo88⟩ := Kd.R_slice HO_11.out; subst eo88) | ((with_reducible refine gate_callee (f := 38) rfl ?_); refine goesL_ (some 92) rfl rfl Try.func38 (by kernel_rfl) rfl #[.slice (some ⟨go82, 0, none⟩) y249.length co85, .slice Ao88 t227.length co88] rfl (by (try simp only [List.map_toArray, List.map_cons, List.map_nil]); first | done | (rw [show y249.length = t226.length from (Kd.R_reads' HO_10.out).1.symm] <;> rfl) | rfl | (simp only [List.length_drop, List.length_take]; rfl)) ?_; (with_reducible refine (group_Check.calls kj16 _ _ y249 _ _ t227 t250 _ ?side1 ?side2 ?side3 ?side4 A83.out).mono ?_); (case side1 => repeat (first | exact (Kd.R_reads' HO_10.out).2.2 | (with_reducible refine Kd.C_alloc ?_ _) | (with_reducible refine Kd.C_drewN ?_ _) | (with_reducible refine Kd.C_drew ?_))); (case side2 => rw [show y249.length = t226.length from (Kd.R_reads' HO_10.out).1.symm]; exact (Kd.R_reads' HO_10.out).2.1); (case side3 => repeat (first | exact (Kd.R_reads' HO_11.out).2.2 | (with_reducible refine Kd.C_alloc ?_ _) | (with_reducible refine Kd.C_drewN ?_ _) | (with_reducible refine Kd.C_drew ?_))); (case side4 => exact (Kd.R_reads' HO_11.out).2.1); rintro e w89 ⟨rfl, hb⟩; refine ⟨_, rfl, ?_⟩; have n0_ := Aside0.mk (Kd.R_below (by (with_reducible repeat (first | apply Kd.R_alloc | apply Kd.R_drewN | apply Kd.R_drew)); exact HO_10.out) hb); have n1_ := Aside0.mk (Kd.R_below (by (with_reducible repeat (first | apply Kd.R_alloc | apply Kd.R_drewN | apply Kd.R_drew)); exact HO_11.out) hb); have n2_ := Aside0.mk (below_step (by repeat (first | (with_reducible first | exact HB.out | apply below_alloc | apply pw_below_drewN | apply below_drew1) | exact HB.out)) hb); clear HO_10; clear HO_11; clear HB; have HO_10 := n0_; have HO_11 := n1_; have HB := n2_; clear n0_ n1_ n2_; (try clear hb); (try clear hb2); (try clear hk); (try clear hi)) | ((with_reducible refine gate_callee (f := 39) rfl ?_); refine goesL_ (some 95) rfl rfl Try.func39 (by kernel_rfl) rfl #[.slice (some ⟨go82, 0, none⟩) y249.length co85, .slice Ao88 t227.length co88] rfl (by (try simp only [List.map_toArray, List.map_cons, List.map_nil]); first | done | (rw [show y249.length = t226.length from (Kd.R_reads' HO_10.out).1.symm] <;> rfl) | rfl | (simp only [List.length_drop, List.length_take]; rfl)) ?_; (with_reducible refine (busbarref12_Groups.calls kj16 _ _ y249 _ _ t227 t251 _ ?side1 ?side2 ?side3 ?side4 A84.out).mono ?_); (case side1 => repeat (first | exact (Kd.R_reads' HO_10.out).2.2 | (with_reducible refine Kd.C_alloc ?_ _) | (with_reducible refine Kd.C_drewN ?_ _) | (with_reducible refine Kd.C_drew ?_))); (case side2 => rw [show y249.length = t226.length from (Kd.R_reads' HO_10.out).1.symm]; exact (Kd.R_reads' HO_10.out).2.1); (case side3 => repeat (first | exact (Kd.R_reads' HO_11.out).2.2 | (with_reducible refine Kd.C_alloc ?_ _) | (with_reducible refine Kd.C_drewN ?_ _) | (with_reducible refine Kd.C_drew ?_))); (case side4 => exact (Kd.R_reads' HO_11.out).2.1); rintro e w90 ⟨rfl, hb⟩; refine ⟨_, rfl, ?_⟩; have n0_ := Aside0.mk (Kd.R_below (by (with_reducible repeat (first | apply Kd.R_alloc | apply Kd.R_drewN | apply Kd.R_drew)); exact HO_10.out) hb); have n1_ := Aside0.mk (Kd.R_below (by (with_reducible repeat (first | apply Kd.R_alloc | apply Kd.R_drewN | apply Kd.R_drew)); exact HO_11.out) hb); have n2_ := Aside0.mk (below_step (by repeat (first | (with_reducible first | exact HB.out | apply below_alloc | apply pw_below_drewN | apply below_drew1) | exact HB.out)) hb); clear HO_10; clear HO_11; clear HB; have HO_10 := n0_; have HO_11 := n1_; have HB := n2_; clear n0_ n1_ n2_; (try clear hb); (try clear hb2); (try clear hk); (try clear hi)))
               go_ret
               exact ⟨by first | rfl | (simp [errW_none, errW_some] <;> rfl) | (simp [*, errW_none, errW_some] <;> rfl), by repeat (first | (with_reducible first | exact HB.out | apply below_alloc | apply pw_below_drewN | apply below_drew1) | exact HB.out)⟩
              ·
               rw [if_neg c81] at H
               exact absurd H (by simp)
             ·
              rw [if_neg c80] at H
              exact absurd H (by simp)
            ·
             rw [if_neg c78] at H
             have c78b0 : (t236 == 3) = false := beq_eq_false_iff_ne.mpr c78
             have c78b1 : (t236 != 3) = true := bne_iff_ne.mpr c78
             replace H := Option.bind_eq_some_iff.mp H
             obtain ⟨t252, A910, H⟩ := H
             replace H : ((busbarref12_Groups.f kj16 t226 t227).bind fun t253 => (some (t252 == t253))) = some r := H
             have A91 := Aside0.mk A910
             clear A910
             replace H := Option.bind_eq_some_iff.mp H
             obtain ⟨t253, A920, H⟩ := H
             replace H : (some (t252 == t253)) = some r := H
             have A92 := Aside0.mk A920
             clear A920
             obtain rfl := Option.some.inj H
             obtain ⟨Ao93, co93, eo93⟩ := Kd.R_slice HO_10.out
             subst eo93
             go_wp2_with (first | ((with_reducible refine gate_callee (f := 17) rfl ?_); refine goesL_ (some 54) rfl rfl Try.func17 (by kernel_rfl) rfl #[.int .i64 a2, .int .i64 4, .int .i64 (t226.length : Int)] rfl (by (try simp only [List.map_toArray, List.map_cons, List.map_nil]); first | done | rfl | (simp only [List.length_drop, List.length_take]; rfl)) ?_; (with_reducible refine (busbarlaw0_Digit.calls a2 4 (t226.length : Int) t235 _ A38.out).mono ?_); rintro e w' ⟨rfl, ⟨nd, rfl⟩⟩; refine ⟨_, rfl, ?_⟩) | ((with_reducible refine gate_callee (f := 14) rfl ?_); refine goesL_ (some 56) rfl rfl Try.func14 (by kernel_rfl) rfl #[.int .i64 a2, .int .i64 4] rfl (by (try simp only [List.map_toArray, List.map_cons, List.map_nil]); first | done | rfl | (simp only [List.length_drop, List.length_take]; rfl)) ?_; (with_reducible refine (busbarlaw0_Within.calls a2 4 t236 _ A39.out).mono ?_); rintro e w' ⟨rfl, ⟨nd, rfl⟩⟩; refine ⟨_, rfl, ?_⟩; obtain ⟨Ao94, co94, eo94⟩ := Kd.R_slice HO_11.out; subst eo94) | ((with_reducible refine gate_callee (f := 38) rfl ?_); refine goesL_ (some 92) rfl rfl Try.func38 (by kernel_rfl) rfl #[.slice Ao93 t226.length co93, .slice Ao94 t227.length co94] rfl (by (try simp only [List.map_toArray, List.map_cons, List.map_nil]); first | done | rfl | (simp only [List.length_drop, List.length_take]; rfl)) ?_; (with_reducible refine (group_Check.calls kj16 _ _ t226 _ _ t227 t252 _ ?side1 ?side2 ?side3 ?side4 A91.out).mono ?_); (case side1 => repeat (first | exact (Kd.R_reads' HO_10.out).2.2 | (with_reducible refine Kd.C_alloc ?_ _) | (with_reducible refine Kd.C_drewN ?_ _) | (with_reducible refine Kd.C_drew ?_))); (case side2 => exact (Kd.R_reads' HO_10.out).2.1); (case side3 => repeat (first | exact (Kd.R_reads' HO_11.out).2.2 | (with_reducible refine Kd.C_alloc ?_ _) | (with_reducible refine Kd.C_drewN ?_ _) | (with_reducible refine Kd.C_drew ?_))); (case side4 => exact (Kd.R_reads' HO_11.out).2.1); rintro e w95 ⟨rfl, hb⟩; refine ⟨_, rfl, ?_⟩; have n0_ := Aside0.mk (Kd.R_below (by (with_reducible repeat (first | apply Kd.R_alloc | apply Kd.R_drewN | apply Kd.R_drew)); exact HO_10.out) hb); have n1_ := Aside0.mk (Kd.R_below (by (with_reducible repeat (first | apply Kd.R_alloc | apply Kd.R_drewN | apply Kd.R_drew)); exact HO_11.out) hb); have n2_ := Aside0.mk (below_step (by repeat (first | (with_reducible first | exact HB.out | apply below_alloc | apply pw_below_drewN | apply below_drew1) | exact HB.out)) hb); clear HO_10; clear HO_11; clear HB; have HO_10 := n0_; have HO_11 := n1_; have HB := n2_; clear n0_ n1_ n2_; (try clear hb); (try clear hb2); (try clear hk); (try clear hi)) | ((with_reducible refine gate_callee (f := 39) rfl ?_); refine goesL_ (some 95) rfl rfl Try.func39 (by kernel_rfl) rfl #[.slice Ao93 t226.length co93, .slice Ao94 t227.length co94] rfl (by (try simp only [List.map_toArray, List.map_cons, List.map_nil]); first | done | rfl | (simp only [List.length_drop, List.length_take]; rfl)) ?_; (with_reducible refine (busbarref12_Groups.calls kj16 _ _ t226 _ _ t227 t253 _ ?side1 ?side2 ?side3 ?side4 A92.out).mono ?_); (case side1 => repeat (first | exact (Kd.R_reads' HO_10.out).2.2 | (with_reducible refine Kd.C_alloc ?_ _) | (with_reducible refine Kd.C_drewN ?_ _) | (with_reducible refine Kd.C_drew ?_))); (case side2 => exact (Kd.R_reads' HO_10.out).2.1); (case side3 => repeat (first | exact (Kd.R_reads' HO_11.out).2.2 | (with_reducible refine Kd.C_alloc ?_ _) | (with_reducible refine Kd.C_drewN ?_ _) | (with_reducible refine Kd.C_drew ?_))); (case side4 => exact (Kd.R_reads' HO_11.out).2.1); rintro e w96 ⟨rfl, hb⟩; refine ⟨_, rfl, ?_⟩; have n0_ := Aside0.mk (Kd.R_below (by (with_reducible repeat (first | apply Kd.R_alloc | apply Kd.R_drewN | apply Kd.R_drew)); exact HO_10.out) hb); have n1_ := Aside0.mk (Kd.R_below (by (with_reducible repeat (first | apply Kd.R_alloc | apply Kd.R_drewN | apply Kd.R_drew)); exact HO_11.out) hb); have n2_ := Aside0.mk (below_step (by repeat (first | (with_reducible first | exact HB.out | apply below_alloc | apply pw_below_drewN | apply below_drew1) | exact HB.out)) hb); clear HO_10; clear HO_11; clear HB; have HO_10 := n0_; have HO_11 := n1_; have HB := n2_; clear n0_ n1_ n2_; (try clear hb); (try clear hb2); (try clear hk); (try clear hi)))
             go_ret
             exact ⟨by first | rfl | (simp [errW_none, errW_some] <;> rfl) | (simp [*, errW_none, errW_some] <;> rfl), by repeat (first | (with_reducible first | exact HB.out | apply below_alloc | apply pw_below_drewN | apply below_drew1) | exact HB.out)⟩
    ·
     rw [if_neg c15] at H
     have c15b0 : (t224 == t225) = false := beq_eq_false_iff_ne.mpr c15
     have c15b1 : (t224 != t225) = true := bne_iff_ne.mpr c15
     obtain rfl := Option.some.inj H
     go_wp2_with (first | ((with_reducible refine gate_callee (f := 19) rfl ?_); refine goesL_ (some 22) rfl rfl Try.func19 (by kernel_rfl) rfl #[.slice A1 l1.length c1] rfl (by (try simp only [List.map_toArray, List.map_cons, List.map_nil]); first | done | rfl | (simp only [List.length_drop, List.length_take]; rfl)) ?_; (with_reducible refine (busbarlaw0_Spans.calls kj4 _ _ l1 t221 _ ?side1 ?side2 A12.out).mono ?_); (case side1 => repeat (first | exact (Kd.C_below HR1.out HB.out) | (with_reducible refine Kd.C_alloc ?_ _) | (with_reducible refine Kd.C_drewN ?_ _) | (with_reducible refine Kd.C_drew ?_))); (case side2 => exact HC1.out); rintro e w97 ⟨v222, rfl, ho0, hb⟩; refine ⟨_, rfl, ?_⟩; have n0_ := Aside0.mk (Kd.R_lower ho0 (below_size (by repeat (first | (with_reducible first | exact HB.out | apply below_alloc | apply pw_below_drewN | apply below_drew1) | exact HB.out)))); have n1_ := Aside0.mk (below_step (by repeat (first | (with_reducible first | exact HB.out | apply below_alloc | apply pw_below_drewN | apply below_drew1) | exact HB.out)) hb); clear HB; have HO223 := n0_; have HB := n1_; clear n0_ n1_; (try clear hb); (try clear hb2); (try clear hk); (try clear hi); (try clear ho0); obtain ⟨Ao98, co98, eo98⟩ := Kd.R_slice HO223.out; subst eo98) | ((with_reducible refine gate_callee (f := 38) rfl ?_); refine goesL_ (some 25) rfl rfl Try.func38 (by kernel_rfl) rfl #[.slice A0 l0.length c0, .slice Ao98 t221.length co98] rfl (by (try simp only [List.map_toArray, List.map_cons, List.map_nil]); first | done | rfl | (simp only [List.length_drop, List.length_take]; rfl)) ?_; (with_reducible refine (group_Check.calls kj4 _ _ l0 _ _ t221 t224 _ ?side1 ?side2 ?side3 ?side4 A13.out).mono ?_); (case side1 => repeat (first | exact (Kd.C_below HR0.out HB.out) | (with_reducible refine Kd.C_alloc ?_ _) | (with_reducible refine Kd.C_drewN ?_ _) | (with_reducible refine Kd.C_drew ?_))); (case side2 => exact HC0.out); (case side3 => repeat (first | exact (Kd.R_reads' HO223.out).2.2 | (with_reducible refine Kd.C_alloc ?_ _) | (with_reducible refine Kd.C_drewN ?_ _) | (with_reducible refine Kd.C_drew ?_))); (case side4 => exact (Kd.R_reads' HO223.out).2.1); rintro e w99 ⟨rfl, hb⟩; refine ⟨_, rfl, ?_⟩; have n0_ := Aside0.mk (Kd.R_below (by (with_reducible repeat (first | apply Kd.R_alloc | apply Kd.R_drewN | apply Kd.R_drew)); exact HO223.out) hb); have n1_ := Aside0.mk (below_step (by repeat (first | (with_reducible first | exact HB.out | apply below_alloc | apply pw_below_drewN | apply below_drew1) | exact HB.out)) hb); clear HO223; clear HB; have HO223 := n0_; have HB := n1_; clear n0_ n1_; (try clear hb); (try clear hb2); (try clear hk); (try clear hi)) | ((with_reducible refine gate_callee (f := 39) rfl ?_); refine goesL_ (some 28) rfl rfl Try.func39 (by kernel_rfl) rfl #[.slice A0 l0.length c0, .slice Ao98 t221.length co98] rfl (by (try simp only [List.map_toArray, List.map_cons, List.map_nil]); first | done | rfl | (simp only [List.length_drop, List.length_take]; rfl)) ?_; (with_reducible refine (busbarref12_Groups.calls kj4 _ _ l0 _ _ t221 t225 _ ?side1 ?side2 ?side3 ?side4 A14.out).mono ?_); (case side1 => repeat (first | exact (Kd.C_below HR0.out HB.out) | (with_reducible refine Kd.C_alloc ?_ _) | (with_reducible refine Kd.C_drewN ?_ _) | (with_reducible refine Kd.C_drew ?_))); (case side2 => exact HC0.out); (case side3 => repeat (first | exact (Kd.R_reads' HO223.out).2.2 | (with_reducible refine Kd.C_alloc ?_ _) | (with_reducible refine Kd.C_drewN ?_ _) | (with_reducible refine Kd.C_drew ?_))); (case side4 => exact (Kd.R_reads' HO223.out).2.1); rintro e w100 ⟨rfl, hb⟩; refine ⟨_, rfl, ?_⟩; have n0_ := Aside0.mk (Kd.R_below (by (with_reducible repeat (first | apply Kd.R_alloc | apply Kd.R_drewN | apply Kd.R_drew)); exact HO223.out) hb); have n1_ := Aside0.mk (below_step (by repeat (first | (with_reducible first | exact HB.out | apply below_alloc | apply pw_below_drewN | apply below_drew1) | exact HB.out)) hb); clear HO223; clear HB; have HO223 := n0_; have HB := n1_; clear n0_ n1_; (try clear hb); (try clear hb2); (try clear hk); (try clear hi)))
     go_ret
     exact ⟨by first | rfl | (simp [errW_none, errW_some] <;> rfl) | (simp [*, errW_none, errW_some] <;> rfl), by repeat (first | (with_reducible first | exact HB.out | apply below_alloc | apply pw_below_drewN | apply below_drew1) | exact HB.out)⟩

end Go.Proofs.Ytmbkbpaoiilicaa.PGroupC
