-- written by a program of this session (wip/pp) over the kit's print.py; Lean checks it
import Derived.Test.YtmbkbpaoiilicaaPGroupAx0
import Derived.Test.YtmbkbpaoiilicaaPGroupAx1
import Derived.Test.YtmbkbpaoiilicaaPGroupAx8
import Derived.Test.YtmbkbpaoiilicaaPGroupAx13
import Derived.Test.YtmbkbpaoiilicaaPGroupAx16
import Derived.Test.YtmbkbpaoiilicaaPGroupAx17
import Derived.Test.YtmbkbpaoiilicaaPGroupAx19
namespace Go.Proofs.Ytmbkbpaoiilicaa.PGroupA
open Go.RowKit Go.Proofs.YtmbkbpaoiilicaaW.PrintWords Go.Proofs.YtmbkbpaoiilicaaW.PrintLast Go.Proofs.YtmbkbpaoiilicaaW.PrintMore
attribute [local go_sem] max2_int min2_int max_two min_two max_three min_three max_four min_four plus_setCell_drewN plus_cell_same   -- for this text's walks alone
set_option linter.unusedVariables false
set_option linter.unusedSimpArgs false

attribute [local go_sem high] eqA30
/-! ### busbarlaw14_GroupWhole: function 9 -/
mutual
def busbarlaw14_GroupWhole.l0 : Nat → List (S30) → Bool → Int → Int → Int → Int → Option (Bool)
 | 0, _, _, _, _, _, _ => none
 | k + 1, x5, x8, x9, x221000, x221001, x221002 => if x9 < x221002 then ((group_At.f x5 x221000 x9).bind fun bt222 => (if bt222.2.2.2 = true then (busbarlaw14_GroupWhole.l1 k x5 x8 x9 bt222.2.1 x221000 x221001 x221002 bt222.1 bt222.2.1 bt222.2.2.1) else (busbarlaw14_GroupWhole.l0 k x5 x8 (wrap64 (x9 + 1)) x221000 x221001 x221002))) else ((group_Splits.f k x5 x221000 x221001 x221002).bind fun t221 => (some (t221 == x8)))
def busbarlaw14_GroupWhole.l1 : Nat → List (S30) → Bool → Int → Int → Int → Int → Int → Int → Int → Int → Option (Bool)
 | 0, _, _, _, _, _, _, _, _, _, _ => none
 | k + 1, x5, x8, x9, x12, x221000, x221001, x221002, x227000, x227001, x227002 => if x12 < (wrap64 (x227001 + x227002)) then ((group_At.f x5 x221000 x12).bind fun bt227 => (if bt227.2.2.2 = true then (if (!(bt227.1 == x227000) || (!(bt227.2.1 == x227001) || (!(bt227.2.2.1 == x227002)))) = true then (some false) else (if x8 = true then (busbarlaw14_GroupWhole.l1 k x5 true x9 (wrap64 (x12 + 1)) x221000 x221001 x221002 x227000 x227001 x227002) else (if x12 < x221001 then (busbarlaw14_GroupWhole.l1 k x5 true x9 (wrap64 (x12 + 1)) x221000 x221001 x221002 x227000 x227001 x227002) else (busbarlaw14_GroupWhole.l1 k x5 (decide (x12 ≥ x221002)) x9 (wrap64 (x12 + 1)) x221000 x221001 x221002 x227000 x227001 x227002)))) else (some false))) else (busbarlaw14_GroupWhole.l0 k x5 x8 (wrap64 (x9 + 1)) x221000 x221001 x221002)
end
def busbarlaw14_GroupWhole.f (k : Nat) (l0 : List Int) (a1 : Int) : Option (Bool) := (busbarlaw14_awake.f k).bind fun t210 => (if t210 = true then ((busbarlaw14_All.f k l0).bind fun bt211 => ((busbarlaw0_Span.f a1).bind fun bt217 => (busbarlaw14_GroupWhole.l0 k bt211.1 false bt217.2.1 bt217.1 bt217.2.1 (mn bt217.2.2 (wrap64 (bt217.2.1 + 60)))))) else (some false))
theorem busbarlaw14_GroupWhole.mono_l : ∀ k, (∀ y0 y1 y2 y3 y4 y5, LeO (busbarlaw14_GroupWhole.l0 k y0 y1 y2 y3 y4 y5) (busbarlaw14_GroupWhole.l0 (k + 1) y0 y1 y2 y3 y4 y5)) ∧ (∀ y0 y1 y2 y3 y4 y5 y6 y7 y8 y9, LeO (busbarlaw14_GroupWhole.l1 k y0 y1 y2 y3 y4 y5 y6 y7 y8 y9) (busbarlaw14_GroupWhole.l1 (k + 1) y0 y1 y2 y3 y4 y5 y6 y7 y8 y9))
 | 0 => ⟨fun _ _ _ _ _ _ r h => by simp [busbarlaw14_GroupWhole.l0] at h, fun _ _ _ _ _ _ _ _ _ _ r h => by simp [busbarlaw14_GroupWhole.l1] at h⟩
 | k + 1 => by
  obtain ⟨ih0, ih1⟩ := busbarlaw14_GroupWhole.mono_l k
  refine ⟨?_, ?_⟩
  ·
   intro y0 y1 y2 y3 y4 y5
   unfold busbarlaw14_GroupWhole.l0
   repeat' first
   | (with_reducible exact ih0 _ _ _ _ _ _)
   | (with_reducible exact ih1 _ _ _ _ _ _ _ _ _ _)
   | (with_reducible exact busbarlaw14_All.mono _ _)
   | (with_reducible exact busbarlaw14_awake.mono _)
   | (with_reducible exact group_Splits.mono _ _ _ _ _)
   | (with_reducible exact LeO.refl _)
   | (with_reducible exact LeO.none _)
   | (with_reducible refine LeO.ite ?_ ?_)
   | (with_reducible refine LeO.bind ?_ (fun _ => ?_))
   | exact ih0 _ _ _ _ _ _
   | exact ih1 _ _ _ _ _ _ _ _ _ _
   | exact busbarlaw14_All.mono _ _
   | exact busbarlaw14_awake.mono _
   | exact group_Splits.mono _ _ _ _ _
   | exact LeO.none _
   | refine LeO.ite ?_ ?_
   | refine LeO.bind ?_ (fun _ => ?_)
  ·
   intro y0 y1 y2 y3 y4 y5 y6 y7 y8 y9
   unfold busbarlaw14_GroupWhole.l1
   repeat' first
   | (with_reducible exact ih0 _ _ _ _ _ _)
   | (with_reducible exact ih1 _ _ _ _ _ _ _ _ _ _)
   | (with_reducible exact busbarlaw14_All.mono _ _)
   | (with_reducible exact busbarlaw14_awake.mono _)
   | (with_reducible exact group_Splits.mono _ _ _ _ _)
   | (with_reducible exact LeO.refl _)
   | (with_reducible exact LeO.none _)
   | (with_reducible refine LeO.ite ?_ ?_)
   | (with_reducible refine LeO.bind ?_ (fun _ => ?_))
   | exact ih0 _ _ _ _ _ _
   | exact ih1 _ _ _ _ _ _ _ _ _ _
   | exact busbarlaw14_All.mono _ _
   | exact busbarlaw14_awake.mono _
   | exact group_Splits.mono _ _ _ _ _
   | exact LeO.none _
   | refine LeO.ite ?_ ?_
   | refine LeO.bind ?_ (fun _ => ?_)
theorem busbarlaw14_GroupWhole.mono : ∀ a0 a1 k, LeO (busbarlaw14_GroupWhole.f k a0 a1) (busbarlaw14_GroupWhole.f (k + 1) a0 a1) := by
 intro a0 a1 k
 obtain ⟨ih0, ih1⟩ := busbarlaw14_GroupWhole.mono_l k
 unfold busbarlaw14_GroupWhole.f
 repeat' first
   | (with_reducible exact ih0 _ _ _ _ _ _)
   | (with_reducible exact ih1 _ _ _ _ _ _ _ _ _ _)
   | (with_reducible exact busbarlaw14_All.mono _ _)
   | (with_reducible exact busbarlaw14_awake.mono _)
   | (with_reducible exact group_Splits.mono _ _ _ _ _)
   | (with_reducible exact LeO.refl _)
   | (with_reducible exact LeO.none _)
   | (with_reducible refine LeO.ite ?_ ?_)
   | (with_reducible refine LeO.bind ?_ (fun _ => ?_))
   | exact ih0 _ _ _ _ _ _
   | exact ih1 _ _ _ _ _ _ _ _ _ _
   | exact busbarlaw14_All.mono _ _
   | exact busbarlaw14_awake.mono _
   | exact group_Splits.mono _ _ _ _ _
   | exact LeO.none _
   | refine LeO.ite ?_ ?_
   | refine LeO.bind ?_ (fun _ => ?_)
set_option maxHeartbeats 8000000 in
set_option maxRecDepth 100000 in
theorem busbarlaw14_GroupWhole.calls (k : Nat) (A0 : Option Addr) (c0 : Nat) (l0 : List Int) (a1 : Int) (r : Bool) (w : World) (hr0 : Kd.C (Kd.int .i64) w A0 l0.length l0) (hc0 : l0.length ≤ c0) (h : busbarlaw14_GroupWhole.f k l0 a1 = some r) :
  Calls Try.prog 9 #[.slice A0 l0.length c0, .int .i64 a1] w fun e w' => e = .returned (.bool r) ∧ Below w.heap.size w w' := by
 have hu32 := Try.underlying32
 have hu50 := Try.underlying50
 have hu30 := Try.underlying30
 have HR0 := Aside0.mk hr0
 have HC0 := Aside0.mk hc0
 clear hr0 hc0
 have HB := Aside0.mk (Below.refl w.heap.size w)
 have H : ((busbarlaw14_awake.f k).bind fun t210 => (if t210 = true then ((busbarlaw14_All.f k l0).bind fun bt211 => ((busbarlaw0_Span.f a1).bind fun bt217 => (busbarlaw14_GroupWhole.l0 k bt211.1 false bt217.2.1 bt217.1 bt217.2.1 (mn bt217.2.2 (wrap64 (bt217.2.1 + 60)))))) else (some false))) = some r := h
 clear h
 replace H := Option.bind_eq_some_iff.mp H
 obtain ⟨t210, A30, H⟩ := H
 replace H : (if t210 = true then ((busbarlaw14_All.f k l0).bind fun bt211 => ((busbarlaw0_Span.f a1).bind fun bt217 => (busbarlaw14_GroupWhole.l0 k bt211.1 false bt217.2.1 bt217.1 bt217.2.1 (mn bt217.2.2 (wrap64 (bt217.2.1 + 60)))))) else (some false)) = some r := H
 have A3 := Aside0.mk A30
 clear A30
 by_cases c4 : t210 = true
 ·
  subst c4
  have H1 : ((busbarlaw14_All.f k l0).bind fun bt211 => ((busbarlaw0_Span.f a1).bind fun bt217 => (busbarlaw14_GroupWhole.l0 k bt211.1 false bt217.2.1 bt217.1 bt217.2.1 (mn bt217.2.2 (wrap64 (bt217.2.1 + 60)))))) = some r := by rw [if_pos rfl] at H; exact H
  clear H
  have H := H1
  clear H1
  replace H := Option.bind_eq_some_iff.mp H
  obtain ⟨⟨t211, t212⟩, A50, H⟩ := H
  replace H : ((busbarlaw0_Span.f a1).bind fun bt217 => (busbarlaw14_GroupWhole.l0 k t211 false bt217.2.1 bt217.1 bt217.2.1 (mn bt217.2.2 (wrap64 (bt217.2.1 + 60))))) = some r := H
  have A5 := Aside0.mk A50
  clear A50
  replace H := Option.bind_eq_some_iff.mp H
  obtain ⟨⟨t217, t218, t219⟩, A60, H⟩ := H
  replace H : (busbarlaw14_GroupWhole.l0 k t211 false t218 t217 t218 (mn t219 (wrap64 (t218 + 60)))) = some r := H
  have A6 := Aside0.mk A60
  clear A60
  obtain ⟨ji7, hji7⟩ : ∃ j_ : Int, (mn t219 (wrap64 (t218 + 60))) = j_ := ⟨_, rfl⟩
  replace H : (busbarlaw14_GroupWhole.l0 k t211 false t218 t217 t218 ji7) = some r := by first | (rw [hji7] at H; exact H) | (simp only [hji7] at H ⊢; exact H)
  (try rw [hji7] at A3)
  (try rw [hji7] at A5)
  (try rw [hji7] at A6)
  have hji7_ : (if (wrap64 (t218 + 60)) < t219 then (wrap64 (t218 + 60)) else t219) = ji7 := hji7
  have H' := Aside0.mk H
  clear H
  go_enter Try.func9, Try.ntmps9
  go_wp2_with (first | ((with_reducible refine gate_callee (f := 12) rfl ?_); refine goesL_ (some 15) rfl rfl Try.func12 (by kernel_rfl) rfl #[] rfl (by (try simp only [List.map_toArray, List.map_cons, List.map_nil]); first | done | rfl | (simp only [List.length_drop, List.length_take]; rfl)) ?_; (with_reducible refine (busbarlaw14_awake.calls k  true _ A3.out).mono ?_); rintro e w8 ⟨rfl, hb⟩; refine ⟨_, rfl, ?_⟩; have n0_ := Aside0.mk (below_step (by repeat (first | (with_reducible first | exact HB.out | apply below_alloc | apply pw_below_drewN | apply below_drew1) | exact HB.out)) hb); clear HB; have HB := n0_; clear n0_; (try clear hb); (try clear hb2); (try clear hk); (try clear hi)) | ((with_reducible refine gate_callee (f := 13) rfl ?_); refine goesL_ (some 19) rfl rfl Try.func13 (by kernel_rfl) rfl #[.slice A0 l0.length c0] rfl (by (try simp only [List.map_toArray, List.map_cons, List.map_nil]); first | done | rfl | (simp only [List.length_drop, List.length_take]; rfl)) ?_; (with_reducible refine (busbarlaw14_All.calls k _ _ l0 t211 t212 _ ?side1 ?side2 A5.out).mono ?_); (case side1 => repeat (first | exact (Kd.C_below HR0.out HB.out) | (with_reducible refine Kd.C_alloc ?_ _) | (with_reducible refine Kd.C_drewN ?_ _) | (with_reducible refine Kd.C_drew ?_))); (case side2 => exact HC0.out); rintro e w9 ⟨v213, v215, rfl, ho0, ho1, hb⟩; refine ⟨_, rfl, ?_⟩; have n0_ := Aside0.mk (Kd.R_lower ho0 (below_size (by repeat (first | (with_reducible first | exact HB.out | apply below_alloc | apply pw_below_drewN | apply below_drew1) | exact HB.out)))); have n1_ := Aside0.mk (Kd.R_lower ho1 (below_size (by repeat (first | (with_reducible first | exact HB.out | apply below_alloc | apply pw_below_drewN | apply below_drew1) | exact HB.out)))); have n2_ := Aside0.mk (below_step (by repeat (first | (with_reducible first | exact HB.out | apply below_alloc | apply pw_below_drewN | apply below_drew1) | exact HB.out)) hb); clear HB; have HO214 := n0_; have HO216 := n1_; have HB := n2_; clear n0_ n1_ n2_; (try clear hb); (try clear hb2); (try clear hk); (try clear hi); (try clear ho0); (try clear ho1)) | ((with_reducible refine gate_callee (f := 26) rfl ?_); refine goesL_ (some 23) rfl rfl Try.func26 (by kernel_rfl) rfl #[.int .i64 a1] rfl (by (try simp only [List.map_toArray, List.map_cons, List.map_nil]); first | done | rfl | (simp only [List.length_drop, List.length_take]; rfl)) ?_; (with_reducible refine (busbarlaw0_Span.calls a1 t217 t218 t219 _ A6.out).mono ?_); rintro e w10 ⟨rfl, hb⟩; refine ⟨_, rfl, ?_⟩; have n0_ := Aside0.mk (Kd.R_below (by (with_reducible repeat (first | apply Kd.R_alloc | apply Kd.R_drewN | apply Kd.R_drew)); exact HO214.out) hb); have n1_ := Aside0.mk (Kd.R_below (by (with_reducible repeat (first | apply Kd.R_alloc | apply Kd.R_drewN | apply Kd.R_drew)); exact HO216.out) hb); have n2_ := Aside0.mk (below_step (by repeat (first | (with_reducible first | exact HB.out | apply below_alloc | apply pw_below_drewN | apply below_drew1) | exact HB.out)) hb); clear HO214; clear HO216; clear HB; have HO214 := n0_; have HO216 := n1_; have HB := n2_; clear n0_ n1_ n2_; (try clear hb); (try clear hb2); (try clear hk); (try clear hi)) | ((with_reducible refine gate_dst (N := 7) rfl ?_); refine box_event ?hg (N := 7) ?hd (cs := #[.int .i64 0, .int .i64 0, .int .i64 0]) (t := 32) ?hr ?_; (case hd => rfl); (case hg => rfl); (case hr => first | (go_simp; done) | (go_simp; rfl)); intro gb220 hg w11 hbox hb; have n0_ := Aside0.mk (Kd.R_below (by (with_reducible repeat (first | apply Kd.R_alloc | apply Kd.R_drewN | apply Kd.R_drew)); exact HO214.out) hb); have n1_ := Aside0.mk (Kd.R_below (Kd.R_elderB (by (with_reducible repeat (first | apply Kd.R_alloc | apply Kd.R_drewN | apply Kd.R_drew)); exact HO216.out) gb220 (Nat.le_of_eq hg.symm)) hb); have n2_ := Aside0.mk (below_step (by repeat (first | (with_reducible first | exact HB.out | apply below_alloc | apply pw_below_drewN | apply below_drew1) | exact HB.out)) hb); have n3_ := Aside0.mk (hbox); have n4_ := Aside0.mk ((by rw [hg]; exact (below_size (by repeat (first | (with_reducible first | exact HB.out | apply below_alloc | apply pw_below_drewN | apply below_drew1) | exact HB.out))) : w.heap.size ≤ gb220)); have n5_ := Aside0.mk ((by rw [hg]; exact (below_size (by repeat (first | (with_reducible first | exact HB.out | apply below_alloc | apply pw_below_drewN | apply below_drew1) | exact HB.out))) : w.heap.size ≤ gb220)); clear HO214; clear HO216; clear HB; have HO214 := n0_; have HO216 := n1_; have HB := n2_; have BK220 := n3_; have GW220 := n4_; have GE220 := n5_; clear n0_ n1_ n2_ n3_ n4_ n5_; clear hb hbox hg; have hcz12_0 : w11.cell? ⟨gb220, 0, none⟩ = some (.int .i64 0) := (blk_cell BK220.out 0).trans rfl; have hcz12_1 : w11.cell? ⟨gb220, 1, none⟩ = some (.int .i64 0) := (blk_cell BK220.out 1).trans rfl; have hcz12_2 : w11.cell? ⟨gb220, 2, none⟩ = some (.int .i64 0) := (blk_cell BK220.out 2).trans rfl; have hfz12_0 := blk_frozen BK220.out 0; have hfz12_1 := blk_frozen BK220.out 1; have hfz12_2 := blk_frozen BK220.out 2))
  go_loopg [8, 9] k (fun kq v8 v9 w' => ∃ (x8_1 : Bool) (x9_1 : Int), v8 = .bool x8_1 ∧ v9 = .int .i64 x9_1 ∧ Aside0 (busbarlaw14_GroupWhole.l0 kq t211 x8_1 x9_1 t217 t218 ji7 = some r) ∧ Aside0 (kq ≤ k) ∧ Aside0 (Kd.R k30 30 w' w.heap.size (fun _ => True) v213 t211) ∧ Aside0 (w'.heap[gb220]? = some (.cells #[.int .i64 t217, .int .i64 t218, .int .i64 ji7] 32 (0, 0))) ∧ Aside0 (Below w.heap.size w w'))
  case atStart => exact ⟨(false), (t218), (by first | rfl | (simp; done) | (simp [*]; done)), (by first | rfl | (simp; done) | (simp [*]; done)), H', ⟨Nat.le_refl _⟩, ⟨by (with_reducible repeat (first | apply Kd.R_alloc | apply Kd.R_drewN | apply Kd.R_drew)); exact Kd.R_mono (Kd.R_far (p := ⟨gb220, 2, none⟩) (Kd.R_far (p := ⟨gb220, 2, none⟩) (Kd.R_far (p := ⟨gb220, 1, none⟩) (Kd.R_far (p := ⟨gb220, 0, none⟩) (Kd.R_types HO214.out BK220.out (by decide)) (fun _ hk => hk.2) (.int .i64 t217)) (fun _ hk => hk.2) (.int .i64 t218)) (fun _ hk => hk.2) (.int .i64 t219)) (fun _ hk => hk.2) (.int .i64 ji7)) (fun _ hk => trivial)⟩, ⟨by (with_reducible repeat (first | refine blk_drewN ?_ _ | refine blk_drew ?_ | refine blk_alloc ?_ _)); refine blk_put (cs := #[.int .i64 t217, .int .i64 t218, .int .i64 t219]) ?_ 2 _ rfl; (with_reducible repeat (first | refine blk_drewN ?_ _ | refine blk_drew ?_ | refine blk_alloc ?_ _)); refine blk_put (cs := #[.int .i64 t217, .int .i64 t218, .int .i64 0]) ?_ 2 _ rfl; (with_reducible repeat (first | refine blk_drewN ?_ _ | refine blk_drew ?_ | refine blk_alloc ?_ _)); refine blk_put (cs := #[.int .i64 t217, .int .i64 0, .int .i64 0]) ?_ 1 _ rfl; (with_reducible repeat (first | refine blk_drewN ?_ _ | refine blk_drew ?_ | refine blk_alloc ?_ _)); refine blk_put (cs := #[.int .i64 0, .int .i64 0, .int .i64 0]) ?_ 0 _ rfl; (with_reducible repeat (first | refine blk_drewN ?_ _ | refine blk_drew ?_ | refine blk_alloc ?_ _)); exact BK220.out⟩, ⟨by repeat (first | (with_reducible first | exact HB.out | apply below_alloc | apply pw_below_drewN | apply below_drew1 | refine below_set ?_ GE220.out) | exact HB.out)⟩⟩
  case round =>
   clear H'
   try clear c1
   try clear c2
   try clear p2
   try clear c4
   try clear p6
   try clear c9
   try clear c12
   try clear hcz12_0
   try clear hcz12_1
   try clear hcz12_2
   try clear hfz12_0
   try clear hfz12_1
   try clear hfz12_2
   obtain ⟨x8_1, x9_1, rfl, rfl, HA, HK1, HO_5, BK220, HB⟩ := hrel
   cases gk with
   | zero => exact absurd HA.out (by simp [busbarlaw14_GroupWhole.l0])
   | succ k1 =>
    have H := HA.out
    clear HA
    simp only [busbarlaw14_GroupWhole.l0] at H
    by_cases c13 : x9_1 < ji7
    ·
     rw [if_pos c13] at H
     have c13b0 : decide (x9_1 < ji7) = true := decide_eq_true c13
     clear c13
     replace H := Option.bind_eq_some_iff.mp H
     obtain ⟨⟨t222, t223, t224, t225⟩, A140, H⟩ := H
     replace H : (if t225 = true then (busbarlaw14_GroupWhole.l1 k1 t211 x8_1 x9_1 t223 t217 t218 ji7 t222 t223 t224) else (busbarlaw14_GroupWhole.l0 k1 t211 x8_1 (wrap64 (x9_1 + 1)) t217 t218 ji7)) = some r := H
     have A14 := Aside0.mk A140
     clear A140
     by_cases c15 : t225 = true
     ·
      subst c15
      have H1 : (busbarlaw14_GroupWhole.l1 k1 t211 x8_1 x9_1 t223 t217 t218 ji7 t222 t223 t224) = some r := by rw [if_pos rfl] at H; exact H
      clear H
      have H := H1
      clear H1
      have H' := Aside0.mk H
      clear H
      have hcz16_0 : wr.cell? ⟨gb220, 0, none⟩ = some (.int .i64 t217) := (blk_cell BK220.out 0).trans rfl
      have hcz16_1 : wr.cell? ⟨gb220, 1, none⟩ = some (.int .i64 t218) := (blk_cell BK220.out 1).trans rfl
      have hcz16_2 : wr.cell? ⟨gb220, 2, none⟩ = some (.int .i64 ji7) := (blk_cell BK220.out 2).trans rfl
      have hfz16_0 := blk_frozen BK220.out 0
      have hfz16_1 := blk_frozen BK220.out 1
      have hfz16_2 := blk_frozen BK220.out 2
      obtain ⟨Ao17, co17, eo17⟩ := Kd.R_slice HO_5.out
      subst eo17
      go_wp2_with (first | ((with_reducible refine gate_callee (f := 28) rfl ?_); refine goesL_ (some 45) rfl rfl Try.func28 (by kernel_rfl) rfl #[.slice Ao17 t211.length co17, .agg #[.int .i64 t217, .int .i64 x9_1]] rfl (by (try simp only [List.map_toArray, List.map_cons, List.map_nil]); first | done | rfl | (simp only [List.length_drop, List.length_take]; rfl)) ?_; (with_reducible refine (group_At.calls _ _ t211 t217 x9_1 t222 t223 t224 true _ ?side1 ?side2 A14.out).mono ?_); (case side1 => repeat (first | exact (Kd.R_reads' HO_5.out).2.2 | (with_reducible refine Kd.C_alloc ?_ _) | (with_reducible refine Kd.C_drewN ?_ _) | (with_reducible refine Kd.C_drew ?_))); (case side2 => exact (Kd.R_reads' HO_5.out).2.1); rintro e w18 ⟨rfl, hb⟩; refine ⟨_, rfl, ?_⟩; have n0_ := Aside0.mk (Kd.R_below (by (with_reducible repeat (first | apply Kd.R_alloc | apply Kd.R_drewN | apply Kd.R_drew)); exact HO_5.out) hb); have n1_ := Aside0.mk (blk_below (g := gb220) (o := .cells #[.int .i64 t217, .int .i64 t218, .int .i64 ji7] 32 (0, 0)) (by (with_reducible repeat (first | refine blk_drewN ?_ _ | refine blk_drew ?_ | refine blk_alloc ?_ _)); exact BK220.out) hb); have n2_ := Aside0.mk (below_step (by repeat (first | (with_reducible first | exact HB.out | apply below_alloc | apply pw_below_drewN | apply below_drew1 | refine below_set ?_ GE220.out) | exact HB.out)) hb); clear HO_5; clear BK220; clear HB; have HO_5 := n0_; have BK220 := n1_; have HB := n2_; clear n0_ n1_ n2_; (try clear hb); (try clear hb2); (try clear hk); (try clear hi)) | ((with_reducible refine gate_dst (N := 10) rfl ?_); refine box_event ?hg (N := 10) ?hd (cs := #[.int .i64 0, .int .i64 0, .int .i64 0]) (t := 30) ?hr ?_; (case hd => rfl); (case hg => rfl); (case hr => first | (go_simp; done) | (go_simp; rfl)); intro gb226 hg w19 hbox hb; have n0_ := Aside0.mk (Kd.R_below (Kd.R_elderB (by (with_reducible repeat (first | apply Kd.R_alloc | apply Kd.R_drewN | apply Kd.R_drew)); exact HO_5.out) gb226 (Nat.le_of_eq hg.symm)) hb); have n1_ := Aside0.mk (blk_below (g := gb220) (o := .cells #[.int .i64 t217, .int .i64 t218, .int .i64 ji7] 32 (0, 0)) (by (with_reducible repeat (first | refine blk_drewN ?_ _ | refine blk_drew ?_ | refine blk_alloc ?_ _)); exact BK220.out) hb); have n2_ := Aside0.mk (below_step (by repeat (first | (with_reducible first | exact HB.out | apply below_alloc | apply pw_below_drewN | apply below_drew1 | refine below_set ?_ GE220.out) | exact HB.out)) hb); have n3_ := Aside0.mk (hbox); have n4_ := Aside0.mk ((by rw [hg]; exact (below_size (by repeat (first | (with_reducible first | exact HB.out | apply below_alloc | apply pw_below_drewN | apply below_drew1 | refine below_set ?_ GE220.out) | exact HB.out))) : w.heap.size ≤ gb226)); have n5_ := Aside0.mk ((by rw [hg]; exact (below_size (by repeat (first | (with_reducible first | exact HB.out | apply below_alloc | apply pw_below_drewN | apply below_drew1 | refine below_set ?_ GE220.out) | exact HB.out))) : w.heap.size ≤ gb226)); have n6_ := Aside0.mk ((by rw [hg]; exact Nat.ne_of_lt (blk_lt (g := gb220) (o := .cells #[.int .i64 t217, .int .i64 t218, .int .i64 ji7] 32 (0, 0)) (by (with_reducible repeat (first | refine blk_drewN ?_ _ | refine blk_drew ?_ | refine blk_alloc ?_ _)); exact BK220.out)) : gb220 ≠ gb226)); have n7_ := Aside0.mk ((by rw [hg]; exact Nat.ne_of_gt (blk_lt (g := gb220) (o := .cells #[.int .i64 t217, .int .i64 t218, .int .i64 ji7] 32 (0, 0)) (by (with_reducible repeat (first | refine blk_drewN ?_ _ | refine blk_drew ?_ | refine blk_alloc ?_ _)); exact BK220.out)) : gb226 ≠ gb220)); clear HO_5; clear BK220; clear HB; have HO_5 := n0_; have BK220 := n1_; have HB := n2_; have BK226 := n3_; have GW226 := n4_; have GE226 := n5_; have NB220_226 := n6_; have NB226_220 := n7_; clear n0_ n1_ n2_ n3_ n4_ n5_ n6_ n7_; clear hb hbox hg; have hnb20 := NB226_220.out; have hnc20 := NB220_226.out; have hcz21_0 : w19.cell? ⟨gb226, 0, none⟩ = some (.int .i64 0) := (blk_cell BK226.out 0).trans rfl; have hcz21_1 : w19.cell? ⟨gb226, 1, none⟩ = some (.int .i64 0) := (blk_cell BK226.out 1).trans rfl; have hcz21_2 : w19.cell? ⟨gb226, 2, none⟩ = some (.int .i64 0) := (blk_cell BK226.out 2).trans rfl; have hfz21_0 := blk_frozen BK226.out 0; have hfz21_1 := blk_frozen BK226.out 1; have hfz21_2 := blk_frozen BK226.out 2))
      go_loopg [8, 12] k1 (fun kq v8 v12 w' => ∃ (x8_2 : Bool) (x12_2 : Int), v8 = .bool x8_2 ∧ v12 = .int .i64 x12_2 ∧ Aside0 (busbarlaw14_GroupWhole.l1 kq t211 x8_2 x9_1 x12_2 t217 t218 ji7 t222 t223 t224 = some r) ∧ Aside0 (kq ≤ k1) ∧ Aside0 (Kd.R k30 30 w' w.heap.size (fun k_ => k_ ≠ gb226) (.slice Ao17 t211.length co17) t211) ∧ Aside0 (w'.heap[gb220]? = some (.cells #[.int .i64 t217, .int .i64 t218, .int .i64 ji7] 32 (0, 0))) ∧ Aside0 (w'.heap[gb226]? = some (.cells #[.int .i64 t222, .int .i64 t223, .int .i64 t224] 30 (0, 0))) ∧ Aside0 (Below w.heap.size w w'))
      case atStart => exact ⟨(x8_1), (t223), (by first | rfl | (simp; done) | (simp [*]; done)), (by first | rfl | (simp; done) | (simp [*]; done)), H', ⟨Nat.le_refl _⟩, ⟨by (with_reducible repeat (first | apply Kd.R_alloc | apply Kd.R_drewN | apply Kd.R_drew)); exact Kd.R_mono (Kd.R_far (p := ⟨gb226, 2, none⟩) (Kd.R_far (p := ⟨gb226, 1, none⟩) (Kd.R_far (p := ⟨gb226, 0, none⟩) (Kd.R_mono HO_5.out (fun k_ hk => (⟨hk, hk.2⟩ : _ ∧ k_ ≠ gb226))) (fun _ hk => hk.2) (.int .i64 t222)) (fun _ hk => hk.2) (.int .i64 t223)) (fun _ hk => hk.2) (.int .i64 t224)) (fun _ hk => hk.1.2)⟩, ⟨by (with_reducible repeat (first | refine blk_drewN ?_ _ | refine blk_drew ?_ | refine blk_alloc ?_ _)); refine blk_far ?_ NB220_226.out _; (with_reducible repeat (first | refine blk_drewN ?_ _ | refine blk_drew ?_ | refine blk_alloc ?_ _)); refine blk_far ?_ NB220_226.out _; (with_reducible repeat (first | refine blk_drewN ?_ _ | refine blk_drew ?_ | refine blk_alloc ?_ _)); refine blk_far ?_ NB220_226.out _; (with_reducible repeat (first | refine blk_drewN ?_ _ | refine blk_drew ?_ | refine blk_alloc ?_ _)); exact BK220.out⟩, ⟨by (with_reducible repeat (first | refine blk_drewN ?_ _ | refine blk_drew ?_ | refine blk_alloc ?_ _)); refine blk_put (cs := #[.int .i64 t222, .int .i64 t223, .int .i64 0]) ?_ 2 _ rfl; (with_reducible repeat (first | refine blk_drewN ?_ _ | refine blk_drew ?_ | refine blk_alloc ?_ _)); refine blk_put (cs := #[.int .i64 t222, .int .i64 0, .int .i64 0]) ?_ 1 _ rfl; (with_reducible repeat (first | refine blk_drewN ?_ _ | refine blk_drew ?_ | refine blk_alloc ?_ _)); refine blk_put (cs := #[.int .i64 0, .int .i64 0, .int .i64 0]) ?_ 0 _ rfl; (with_reducible repeat (first | refine blk_drewN ?_ _ | refine blk_drew ?_ | refine blk_alloc ?_ _)); exact BK226.out⟩, ⟨by repeat (first | (with_reducible first | exact HB.out | apply below_alloc | apply pw_below_drewN | apply below_drew1 | refine below_set ?_ GE220.out | refine below_set ?_ GE226.out) | exact HB.out)⟩⟩
      case round =>
       clear H'
       try clear c1
       try clear c2
       try clear p2
       try clear c4
       try clear p6
       try clear c9
       try clear c12
       try clear c13
       try clear c13b0
       try clear c15
       try clear c20
       try clear hcz12_0
       try clear hcz12_1
       try clear hcz12_2
       try clear hcz16_0
       try clear hcz16_1
       try clear hcz16_2
       try clear hcz21_0
       try clear hcz21_1
       try clear hcz21_2
       try clear hfz12_0
       try clear hfz12_1
       try clear hfz12_2
       try clear hfz16_0
       try clear hfz16_1
       try clear hfz16_2
       try clear hfz21_0
       try clear hfz21_1
       try clear hfz21_2
       try clear p2
       try clear p6
       obtain ⟨x8_2, x12_2, rfl, rfl, HA, HK2, HO_5, BK220, BK226, HB⟩ := hrel
       cases gk with
       | zero => exact absurd HA.out (by simp [busbarlaw14_GroupWhole.l1])
       | succ k2 =>
        have H := HA.out
        clear HA
        simp only [busbarlaw14_GroupWhole.l1] at H
        by_cases c22 : x12_2 < (wrap64 (t223 + t224))
        ·
         rw [if_pos c22] at H
         have c22b0 : decide (x12_2 < (wrap64 (t223 + t224))) = true := decide_eq_true c22
         clear c22
         replace H := Option.bind_eq_some_iff.mp H
         obtain ⟨⟨t227, t228, t229, t230⟩, A230, H⟩ := H
         replace H : (if t230 = true then (if (!(t227 == t222) || (!(t228 == t223) || (!(t229 == t224)))) = true then (some false) else (if x8_2 = true then (busbarlaw14_GroupWhole.l1 k2 t211 true x9_1 (wrap64 (x12_2 + 1)) t217 t218 ji7 t222 t223 t224) else (if x12_2 < t218 then (busbarlaw14_GroupWhole.l1 k2 t211 true x9_1 (wrap64 (x12_2 + 1)) t217 t218 ji7 t222 t223 t224) else (busbarlaw14_GroupWhole.l1 k2 t211 (decide (x12_2 ≥ ji7)) x9_1 (wrap64 (x12_2 + 1)) t217 t218 ji7 t222 t223 t224)))) else (some false)) = some r := H
         have A23 := Aside0.mk A230
         clear A230
         by_cases c24 : t230 = true
         ·
          subst c24
          have H1 : (if (!(t227 == t222) || (!(t228 == t223) || (!(t229 == t224)))) = true then (some false) else (if x8_2 = true then (busbarlaw14_GroupWhole.l1 k2 t211 true x9_1 (wrap64 (x12_2 + 1)) t217 t218 ji7 t222 t223 t224) else (if x12_2 < t218 then (busbarlaw14_GroupWhole.l1 k2 t211 true x9_1 (wrap64 (x12_2 + 1)) t217 t218 ji7 t222 t223 t224) else (busbarlaw14_GroupWhole.l1 k2 t211 (decide (x12_2 ≥ ji7)) x9_1 (wrap64 (x12_2 + 1)) t217 t218 ji7 t222 t223 t224)))) = some r := by rw [if_pos rfl] at H; exact H
          clear H
          have H := H1
          clear H1
          by_cases c25 : (!(t227 == t222) || (!(t228 == t223) || (!(t229 == t224)))) = true
          ·
           rw [if_pos c25] at H
           have c25b0 : (!(t227 == t222) || (!(t228 == t223) || (!(t229 == t224)))) = true := c25
           clear c25
           obtain rfl := Option.some.inj H
           have hnb26 := NB226_220.out
           have hnc26 := NB220_226.out
           have hcz27_0 : wr.cell? ⟨gb226, 0, none⟩ = some (.int .i64 t222) := (blk_cell BK226.out 0).trans rfl
           have hcz27_1 : wr.cell? ⟨gb226, 1, none⟩ = some (.int .i64 t223) := (blk_cell BK226.out 1).trans rfl
           have hcz27_2 : wr.cell? ⟨gb226, 2, none⟩ = some (.int .i64 t224) := (blk_cell BK226.out 2).trans rfl
           have hfz27_0 := blk_frozen BK226.out 0
           have hfz27_1 := blk_frozen BK226.out 1
           have hfz27_2 := blk_frozen BK226.out 2
           have hcz28_0 : wr.cell? ⟨gb220, 0, none⟩ = some (.int .i64 t217) := (blk_cell BK220.out 0).trans rfl
           have hcz28_1 : wr.cell? ⟨gb220, 1, none⟩ = some (.int .i64 t218) := (blk_cell BK220.out 1).trans rfl
           have hcz28_2 : wr.cell? ⟨gb220, 2, none⟩ = some (.int .i64 ji7) := (blk_cell BK220.out 2).trans rfl
           have hfz28_0 := blk_frozen BK220.out 0
           have hfz28_1 := blk_frozen BK220.out 1
           have hfz28_2 := blk_frozen BK220.out 2
           go_wp2_with (first | ((with_reducible refine gate_callee (f := 28) rfl ?_); refine goesL_ (some 67) rfl rfl Try.func28 (by kernel_rfl) rfl #[.slice Ao17 t211.length co17, .agg #[.int .i64 t217, .int .i64 x12_2]] rfl (by (try simp only [List.map_toArray, List.map_cons, List.map_nil]); first | done | rfl | (simp only [List.length_drop, List.length_take]; rfl)) ?_; (with_reducible refine (group_At.calls _ _ t211 t217 x12_2 t227 t228 t229 true _ ?side1 ?side2 A23.out).mono ?_); (case side1 => repeat (first | exact (Kd.R_reads' HO_5.out).2.2 | (with_reducible refine Kd.C_alloc ?_ _) | (with_reducible refine Kd.C_drewN ?_ _) | (with_reducible refine Kd.C_drew ?_))); (case side2 => exact (Kd.R_reads' HO_5.out).2.1); rintro e w29 ⟨rfl, hb⟩; refine ⟨_, rfl, ?_⟩; have n0_ := Aside0.mk (Kd.R_below (by (with_reducible repeat (first | apply Kd.R_alloc | apply Kd.R_drewN | apply Kd.R_drew)); exact HO_5.out) hb); have n1_ := Aside0.mk (blk_below (g := gb220) (o := .cells #[.int .i64 t217, .int .i64 t218, .int .i64 ji7] 32 (0, 0)) (by (with_reducible repeat (first | refine blk_drewN ?_ _ | refine blk_drew ?_ | refine blk_alloc ?_ _)); exact BK220.out) hb); have n2_ := Aside0.mk (blk_below (g := gb226) (o := .cells #[.int .i64 t222, .int .i64 t223, .int .i64 t224] 30 (0, 0)) (by (with_reducible repeat (first | refine blk_drewN ?_ _ | refine blk_drew ?_ | refine blk_alloc ?_ _)); exact BK226.out) hb); have n3_ := Aside0.mk (below_step (by repeat (first | (with_reducible first | exact HB.out | apply below_alloc | apply pw_below_drewN | apply below_drew1 | refine below_set ?_ GE220.out | refine below_set ?_ GE226.out) | exact HB.out)) hb); clear HO_5; clear BK220; clear BK226; clear HB; have HO_5 := n0_; have BK220 := n1_; have BK226 := n2_; have HB := n3_; clear n0_ n1_ n2_ n3_; (try clear hb); (try clear hb2); (try clear hk); (try clear hi)) | ((with_reducible refine gate_dst (N := 13) rfl ?_); refine box_event ?hg (N := 13) ?hd (cs := #[.int .i64 0, .int .i64 0, .int .i64 0]) (t := 30) ?hr ?_; (case hd => rfl); (case hg => rfl); (case hr => first | (go_simp; done) | (go_simp; rfl)); intro gb231 hg w30 hbox hb; have n0_ := Aside0.mk (Kd.R_below (Kd.R_elderB (by (with_reducible repeat (first | apply Kd.R_alloc | apply Kd.R_drewN | apply Kd.R_drew)); exact HO_5.out) gb231 (Nat.le_of_eq hg.symm)) hb); have n1_ := Aside0.mk (blk_below (g := gb220) (o := .cells #[.int .i64 t217, .int .i64 t218, .int .i64 ji7] 32 (0, 0)) (by (with_reducible repeat (first | refine blk_drewN ?_ _ | refine blk_drew ?_ | refine blk_alloc ?_ _)); exact BK220.out) hb); have n2_ := Aside0.mk (blk_below (g := gb226) (o := .cells #[.int .i64 t222, .int .i64 t223, .int .i64 t224] 30 (0, 0)) (by (with_reducible repeat (first | refine blk_drewN ?_ _ | refine blk_drew ?_ | refine blk_alloc ?_ _)); exact BK226.out) hb); have n3_ := Aside0.mk (below_step (by repeat (first | (with_reducible first | exact HB.out | apply below_alloc | apply pw_below_drewN | apply below_drew1 | refine below_set ?_ GE220.out | refine below_set ?_ GE226.out) | exact HB.out)) hb); have n4_ := Aside0.mk (hbox); have n5_ := Aside0.mk ((by rw [hg]; exact (below_size (by repeat (first | (with_reducible first | exact HB.out | apply below_alloc | apply pw_below_drewN | apply below_drew1 | refine below_set ?_ GE220.out | refine below_set ?_ GE226.out) | exact HB.out))) : w.heap.size ≤ gb231)); have n6_ := Aside0.mk ((by rw [hg]; exact (below_size (by repeat (first | (with_reducible first | exact HB.out | apply below_alloc | apply pw_below_drewN | apply below_drew1 | refine below_set ?_ GE220.out | refine below_set ?_ GE226.out) | exact HB.out))) : w.heap.size ≤ gb231)); have n7_ := Aside0.mk ((by rw [hg]; exact Nat.ne_of_lt (blk_lt (g := gb220) (o := .cells #[.int .i64 t217, .int .i64 t218, .int .i64 ji7] 32 (0, 0)) (by (with_reducible repeat (first | refine blk_drewN ?_ _ | refine blk_drew ?_ | refine blk_alloc ?_ _)); exact BK220.out)) : gb220 ≠ gb231)); have n8_ := Aside0.mk ((by rw [hg]; exact Nat.ne_of_gt (blk_lt (g := gb220) (o := .cells #[.int .i64 t217, .int .i64 t218, .int .i64 ji7] 32 (0, 0)) (by (with_reducible repeat (first | refine blk_drewN ?_ _ | refine blk_drew ?_ | refine blk_alloc ?_ _)); exact BK220.out)) : gb231 ≠ gb220)); have n9_ := Aside0.mk ((by rw [hg]; exact Nat.ne_of_lt (blk_lt (g := gb226) (o := .cells #[.int .i64 t222, .int .i64 t223, .int .i64 t224] 30 (0, 0)) (by (with_reducible repeat (first | refine blk_drewN ?_ _ | refine blk_drew ?_ | refine blk_alloc ?_ _)); exact BK226.out)) : gb226 ≠ gb231)); have n10_ := Aside0.mk ((by rw [hg]; exact Nat.ne_of_gt (blk_lt (g := gb226) (o := .cells #[.int .i64 t222, .int .i64 t223, .int .i64 t224] 30 (0, 0)) (by (with_reducible repeat (first | refine blk_drewN ?_ _ | refine blk_drew ?_ | refine blk_alloc ?_ _)); exact BK226.out)) : gb231 ≠ gb226)); clear HO_5; clear BK220; clear BK226; clear HB; have HO_5 := n0_; have BK220 := n1_; have BK226 := n2_; have HB := n3_; have BK231 := n4_; have GW231 := n5_; have GE231 := n6_; have NB220_231 := n7_; have NB231_220 := n8_; have NB226_231 := n9_; have NB231_226 := n10_; clear n0_ n1_ n2_ n3_ n4_ n5_ n6_ n7_ n8_ n9_ n10_; clear hb hbox hg; have hnb31 := NB231_220.out; have hnc31 := NB220_231.out; have hnb32 := NB231_226.out; have hnc32 := NB226_231.out; have hcz33_0 : w30.cell? ⟨gb231, 0, none⟩ = some (.int .i64 0) := (blk_cell BK231.out 0).trans rfl; have hcz33_1 : w30.cell? ⟨gb231, 1, none⟩ = some (.int .i64 0) := (blk_cell BK231.out 1).trans rfl; have hcz33_2 : w30.cell? ⟨gb231, 2, none⟩ = some (.int .i64 0) := (blk_cell BK231.out 2).trans rfl; have hfz33_0 := blk_frozen BK231.out 0; have hfz33_1 := blk_frozen BK231.out 1; have hfz33_2 := blk_frozen BK231.out 2; have hcz34_0 : w30.cell? ⟨gb226, 0, none⟩ = some (.int .i64 t222) := (blk_cell BK226.out 0).trans rfl; have hcz34_1 : w30.cell? ⟨gb226, 1, none⟩ = some (.int .i64 t223) := (blk_cell BK226.out 1).trans rfl; have hcz34_2 : w30.cell? ⟨gb226, 2, none⟩ = some (.int .i64 t224) := (blk_cell BK226.out 2).trans rfl; have hfz34_0 := blk_frozen BK226.out 0; have hfz34_1 := blk_frozen BK226.out 1; have hfz34_2 := blk_frozen BK226.out 2))
           go_ret
           exact ⟨by first | rfl | (simp [errW_none, errW_some] <;> rfl) | (simp only [← hji7]; first | rfl | (simp [errW_none, errW_some] <;> rfl)) | (simp [*, errW_none, errW_some] <;> rfl), by repeat (first | (with_reducible first | exact HB.out | apply below_alloc | apply pw_below_drewN | apply below_drew1 | refine below_set ?_ GE220.out | refine below_set ?_ GE226.out | refine below_set ?_ GE231.out) | exact HB.out)⟩
          ·
           rw [if_neg c25] at H
           have c25b0 : (!(t227 == t222) || (!(t228 == t223) || (!(t229 == t224)))) = false := by simpa using c25
           clear c25
           by_cases c35 : x8_2 = true
           ·
            subst c35
            have H1 : (busbarlaw14_GroupWhole.l1 k2 t211 true x9_1 (wrap64 (x12_2 + 1)) t217 t218 ji7 t222 t223 t224) = some r := by rw [if_pos rfl] at H; exact H
            clear H
            have H := H1
            clear H1
            have H' := Aside0.mk H
            clear H
            have hnb36 := NB226_220.out
            have hnc36 := NB220_226.out
            have hcz37_0 : wr.cell? ⟨gb226, 0, none⟩ = some (.int .i64 t222) := (blk_cell BK226.out 0).trans rfl
            have hcz37_1 : wr.cell? ⟨gb226, 1, none⟩ = some (.int .i64 t223) := (blk_cell BK226.out 1).trans rfl
            have hcz37_2 : wr.cell? ⟨gb226, 2, none⟩ = some (.int .i64 t224) := (blk_cell BK226.out 2).trans rfl
            have hfz37_0 := blk_frozen BK226.out 0
            have hfz37_1 := blk_frozen BK226.out 1
            have hfz37_2 := blk_frozen BK226.out 2
            have hcz38_0 : wr.cell? ⟨gb220, 0, none⟩ = some (.int .i64 t217) := (blk_cell BK220.out 0).trans rfl
            have hcz38_1 : wr.cell? ⟨gb220, 1, none⟩ = some (.int .i64 t218) := (blk_cell BK220.out 1).trans rfl
            have hcz38_2 : wr.cell? ⟨gb220, 2, none⟩ = some (.int .i64 ji7) := (blk_cell BK220.out 2).trans rfl
            have hfz38_0 := blk_frozen BK220.out 0
            have hfz38_1 := blk_frozen BK220.out 1
            have hfz38_2 := blk_frozen BK220.out 2
            go_wp2_with (first | ((with_reducible refine gate_callee (f := 28) rfl ?_); refine goesL_ (some 67) rfl rfl Try.func28 (by kernel_rfl) rfl #[.slice Ao17 t211.length co17, .agg #[.int .i64 t217, .int .i64 x12_2]] rfl (by (try simp only [List.map_toArray, List.map_cons, List.map_nil]); first | done | rfl | (simp only [List.length_drop, List.length_take]; rfl)) ?_; (with_reducible refine (group_At.calls _ _ t211 t217 x12_2 t227 t228 t229 true _ ?side1 ?side2 A23.out).mono ?_); (case side1 => repeat (first | exact (Kd.R_reads' HO_5.out).2.2 | (with_reducible refine Kd.C_alloc ?_ _) | (with_reducible refine Kd.C_drewN ?_ _) | (with_reducible refine Kd.C_drew ?_))); (case side2 => exact (Kd.R_reads' HO_5.out).2.1); rintro e w39 ⟨rfl, hb⟩; refine ⟨_, rfl, ?_⟩; have n0_ := Aside0.mk (Kd.R_below (by (with_reducible repeat (first | apply Kd.R_alloc | apply Kd.R_drewN | apply Kd.R_drew)); exact HO_5.out) hb); have n1_ := Aside0.mk (blk_below (g := gb220) (o := .cells #[.int .i64 t217, .int .i64 t218, .int .i64 ji7] 32 (0, 0)) (by (with_reducible repeat (first | refine blk_drewN ?_ _ | refine blk_drew ?_ | refine blk_alloc ?_ _)); exact BK220.out) hb); have n2_ := Aside0.mk (blk_below (g := gb226) (o := .cells #[.int .i64 t222, .int .i64 t223, .int .i64 t224] 30 (0, 0)) (by (with_reducible repeat (first | refine blk_drewN ?_ _ | refine blk_drew ?_ | refine blk_alloc ?_ _)); exact BK226.out) hb); have n3_ := Aside0.mk (below_step (by repeat (first | (with_reducible first | exact HB.out | apply below_alloc | apply pw_below_drewN | apply below_drew1 | refine below_set ?_ GE220.out | refine below_set ?_ GE226.out) | exact HB.out)) hb); clear HO_5; clear BK220; clear BK226; clear HB; have HO_5 := n0_; have BK220 := n1_; have BK226 := n2_; have HB := n3_; clear n0_ n1_ n2_ n3_; (try clear hb); (try clear hb2); (try clear hk); (try clear hi)) | ((with_reducible refine gate_dst (N := 13) rfl ?_); refine box_event ?hg (N := 13) ?hd (cs := #[.int .i64 0, .int .i64 0, .int .i64 0]) (t := 30) ?hr ?_; (case hd => rfl); (case hg => rfl); (case hr => first | (go_simp; done) | (go_simp; rfl)); intro gb231 hg w40 hbox hb; have n0_ := Aside0.mk (Kd.R_below (Kd.R_elderB (by (with_reducible repeat (first | apply Kd.R_alloc | apply Kd.R_drewN | apply Kd.R_drew)); exact HO_5.out) gb231 (Nat.le_of_eq hg.symm)) hb); have n1_ := Aside0.mk (blk_below (g := gb220) (o := .cells #[.int .i64 t217, .int .i64 t218, .int .i64 ji7] 32 (0, 0)) (by (with_reducible repeat (first | refine blk_drewN ?_ _ | refine blk_drew ?_ | refine blk_alloc ?_ _)); exact BK220.out) hb); have n2_ := Aside0.mk (blk_below (g := gb226) (o := .cells #[.int .i64 t222, .int .i64 t223, .int .i64 t224] 30 (0, 0)) (by (with_reducible repeat (first | refine blk_drewN ?_ _ | refine blk_drew ?_ | refine blk_alloc ?_ _)); exact BK226.out) hb); have n3_ := Aside0.mk (below_step (by repeat (first | (with_reducible first | exact HB.out | apply below_alloc | apply pw_below_drewN | apply below_drew1 | refine below_set ?_ GE220.out | refine below_set ?_ GE226.out) | exact HB.out)) hb); have n4_ := Aside0.mk (hbox); have n5_ := Aside0.mk ((by rw [hg]; exact (below_size (by repeat (first | (with_reducible first | exact HB.out | apply below_alloc | apply pw_below_drewN | apply below_drew1 | refine below_set ?_ GE220.out | refine below_set ?_ GE226.out) | exact HB.out))) : w.heap.size ≤ gb231)); have n6_ := Aside0.mk ((by rw [hg]; exact (below_size (by repeat (first | (with_reducible first | exact HB.out | apply below_alloc | apply pw_below_drewN | apply below_drew1 | refine below_set ?_ GE220.out | refine below_set ?_ GE226.out) | exact HB.out))) : w.heap.size ≤ gb231)); have n7_ := Aside0.mk ((by rw [hg]; exact Nat.ne_of_lt (blk_lt (g := gb220) (o := .cells #[.int .i64 t217, .int .i64 t218, .int .i64 ji7] 32 (0, 0)) (by (with_reducible repeat (first | refine blk_drewN ?_ _ | refine blk_drew ?_ | refine blk_alloc ?_ _)); exact BK220.out)) : gb220 ≠ gb231)); have n8_ := Aside0.mk ((by rw [hg]; exact Nat.ne_of_gt (blk_lt (g := gb220) (o := .cells #[.int .i64 t217, .int .i64 t218, .int .i64 ji7] 32 (0, 0)) (by (with_reducible repeat (first | refine blk_drewN ?_ _ | refine blk_drew ?_ | refine blk_alloc ?_ _)); exact BK220.out)) : gb231 ≠ gb220)); have n9_ := Aside0.mk ((by rw [hg]; exact Nat.ne_of_lt (blk_lt (g := gb226) (o := .cells #[.int .i64 t222, .int .i64 t223, .int .i64 t224] 30 (0, 0)) (by (with_reducible repeat (first | refine blk_drewN ?_ _ | refine blk_drew ?_ | refine blk_alloc ?_ _)); exact BK226.out)) : gb226 ≠ gb231)); have n10_ := Aside0.mk ((by rw [hg]; exact Nat.ne_of_gt (blk_lt (g := gb226) (o := .cells #[.int .i64 t222, .int .i64 t223, .int .i64 t224] 30 (0, 0)) (by (with_reducible repeat (first | refine blk_drewN ?_ _ | refine blk_drew ?_ | refine blk_alloc ?_ _)); exact BK226.out)) : gb231 ≠ gb226)); clear HO_5; clear BK220; clear BK226; clear HB; have HO_5 := n0_; have BK220 := n1_; have BK226 := n2_; have HB := n3_; have BK231 := n4_; have GW231 := n5_; have GE231 := n6_; have NB220_231 := n7_; have NB231_220 := n8_; have NB226_231 := n9_; have NB231_226 := n10_; clear n0_ n1_ n2_ n3_ n4_ n5_ n6_ n7_ n8_ n9_ n10_; clear hb hbox hg; have hnb41 := NB231_220.out; have hnc41 := NB220_231.out; have hnb42 := NB231_226.out; have hnc42 := NB226_231.out; have hcz43_0 : w40.cell? ⟨gb231, 0, none⟩ = some (.int .i64 0) := (blk_cell BK231.out 0).trans rfl; have hcz43_1 : w40.cell? ⟨gb231, 1, none⟩ = some (.int .i64 0) := (blk_cell BK231.out 1).trans rfl; have hcz43_2 : w40.cell? ⟨gb231, 2, none⟩ = some (.int .i64 0) := (blk_cell BK231.out 2).trans rfl; have hfz43_0 := blk_frozen BK231.out 0; have hfz43_1 := blk_frozen BK231.out 1; have hfz43_2 := blk_frozen BK231.out 2; have hcz44_0 : w40.cell? ⟨gb226, 0, none⟩ = some (.int .i64 t222) := (blk_cell BK226.out 0).trans rfl; have hcz44_1 : w40.cell? ⟨gb226, 1, none⟩ = some (.int .i64 t223) := (blk_cell BK226.out 1).trans rfl; have hcz44_2 : w40.cell? ⟨gb226, 2, none⟩ = some (.int .i64 t224) := (blk_cell BK226.out 2).trans rfl; have hfz44_0 := blk_frozen BK226.out 0; have hfz44_1 := blk_frozen BK226.out 1; have hfz44_2 := blk_frozen BK226.out 2))
            go_roundg k2
            case measure => have := HK1.out; have := HK2.out; omega
            case rel => exact ⟨(true), (wrap64 (x12_2 + 1)), (by first | rfl | (simp; done) | (simp [*]; done)), (by first | rfl | (simp; done) | (simp [*]; done)), H', ⟨by have := HK1.out; have := HK2.out; omega⟩, ⟨by (with_reducible repeat (first | apply Kd.R_alloc | apply Kd.R_drewN | apply Kd.R_drew)); exact Kd.R_mono (Kd.R_far (p := ⟨gb231, 2, none⟩) (Kd.R_far (p := ⟨gb231, 1, none⟩) (Kd.R_far (p := ⟨gb231, 0, none⟩) (Kd.R_mono HO_5.out (fun k_ hk => (⟨hk, hk.2⟩ : _ ∧ k_ ≠ gb231))) (fun _ hk => hk.2) (.int .i64 t227)) (fun _ hk => hk.2) (.int .i64 t228)) (fun _ hk => hk.2) (.int .i64 t229)) (fun _ hk => hk.1.1)⟩, ⟨by (with_reducible repeat (first | refine blk_drewN ?_ _ | refine blk_drew ?_ | refine blk_alloc ?_ _)); refine blk_far ?_ NB220_231.out _; (with_reducible repeat (first | refine blk_drewN ?_ _ | refine blk_drew ?_ | refine blk_alloc ?_ _)); refine blk_far ?_ NB220_231.out _; (with_reducible repeat (first | refine blk_drewN ?_ _ | refine blk_drew ?_ | refine blk_alloc ?_ _)); refine blk_far ?_ NB220_231.out _; (with_reducible repeat (first | refine blk_drewN ?_ _ | refine blk_drew ?_ | refine blk_alloc ?_ _)); exact BK220.out⟩, ⟨by (with_reducible repeat (first | refine blk_drewN ?_ _ | refine blk_drew ?_ | refine blk_alloc ?_ _)); refine blk_far ?_ NB226_231.out _; (with_reducible repeat (first | refine blk_drewN ?_ _ | refine blk_drew ?_ | refine blk_alloc ?_ _)); refine blk_far ?_ NB226_231.out _; (with_reducible repeat (first | refine blk_drewN ?_ _ | refine blk_drew ?_ | refine blk_alloc ?_ _)); refine blk_far ?_ NB226_231.out _; (with_reducible repeat (first | refine blk_drewN ?_ _ | refine blk_drew ?_ | refine blk_alloc ?_ _)); exact BK226.out⟩, ⟨by repeat (first | (with_reducible first | exact HB.out | apply below_alloc | apply pw_below_drewN | apply below_drew1 | refine below_set ?_ GE220.out | refine below_set ?_ GE226.out | refine below_set ?_ GE231.out) | exact HB.out)⟩⟩
           ·
            replace c35 := Bool.eq_false_iff.mpr c35
            subst c35
            have H1 : (if x12_2 < t218 then (busbarlaw14_GroupWhole.l1 k2 t211 true x9_1 (wrap64 (x12_2 + 1)) t217 t218 ji7 t222 t223 t224) else (busbarlaw14_GroupWhole.l1 k2 t211 (decide (x12_2 ≥ ji7)) x9_1 (wrap64 (x12_2 + 1)) t217 t218 ji7 t222 t223 t224)) = some r := by rw [if_neg (show ¬ (false = true) by decide)] at H; exact H
            clear H
            have H := H1
            clear H1
            by_cases c45 : x12_2 < t218
            ·
             rw [if_pos c45] at H
             have c45b0 : decide (x12_2 < t218) = true := decide_eq_true c45
             clear c45
             have H' := Aside0.mk H
             clear H
             have hnb46 := NB226_220.out
             have hnc46 := NB220_226.out
             have hcz47_0 : wr.cell? ⟨gb226, 0, none⟩ = some (.int .i64 t222) := (blk_cell BK226.out 0).trans rfl
             have hcz47_1 : wr.cell? ⟨gb226, 1, none⟩ = some (.int .i64 t223) := (blk_cell BK226.out 1).trans rfl
             have hcz47_2 : wr.cell? ⟨gb226, 2, none⟩ = some (.int .i64 t224) := (blk_cell BK226.out 2).trans rfl
             have hfz47_0 := blk_frozen BK226.out 0
             have hfz47_1 := blk_frozen BK226.out 1
             have hfz47_2 := blk_frozen BK226.out 2
             have hcz48_0 : wr.cell? ⟨gb220, 0, none⟩ = some (.int .i64 t217) := (blk_cell BK220.out 0).trans rfl
             have hcz48_1 : wr.cell? ⟨gb220, 1, none⟩ = some (.int .i64 t218) := (blk_cell BK220.out 1).trans rfl
             have hcz48_2 : wr.cell? ⟨gb220, 2, none⟩ = some (.int .i64 ji7) := (blk_cell BK220.out 2).trans rfl
             have hfz48_0 := blk_frozen BK220.out 0
             have hfz48_1 := blk_frozen BK220.out 1
             have hfz48_2 := blk_frozen BK220.out 2
             go_wp2_with (first | ((with_reducible refine gate_callee (f := 28) rfl ?_); refine goesL_ (some 67) rfl rfl Try.func28 (by kernel_rfl) rfl #[.slice Ao17 t211.length co17, .agg #[.int .i64 t217, .int .i64 x12_2]] rfl (by (try simp only [List.map_toArray, List.map_cons, List.map_nil]); first | done | rfl | (simp only [List.length_drop, List.length_take]; rfl)) ?_; (with_reducible refine (group_At.calls _ _ t211 t217 x12_2 t227 t228 t229 true _ ?side1 ?side2 A23.out).mono ?_); (case side1 => repeat (first | exact (Kd.R_reads' HO_5.out).2.2 | (with_reducible refine Kd.C_alloc ?_ _) | (with_reducible refine Kd.C_drewN ?_ _) | (with_reducible refine Kd.C_drew ?_))); (case side2 => exact (Kd.R_reads' HO_5.out).2.1); rintro e w49 ⟨rfl, hb⟩; refine ⟨_, rfl, ?_⟩; have n0_ := Aside0.mk (Kd.R_below (by (with_reducible repeat (first | apply Kd.R_alloc | apply Kd.R_drewN | apply Kd.R_drew)); exact HO_5.out) hb); have n1_ := Aside0.mk (blk_below (g := gb220) (o := .cells #[.int .i64 t217, .int .i64 t218, .int .i64 ji7] 32 (0, 0)) (by (with_reducible repeat (first | refine blk_drewN ?_ _ | refine blk_drew ?_ | refine blk_alloc ?_ _)); exact BK220.out) hb); have n2_ := Aside0.mk (blk_below (g := gb226) (o := .cells #[.int .i64 t222, .int .i64 t223, .int .i64 t224] 30 (0, 0)) (by (with_reducible repeat (first | refine blk_drewN ?_ _ | refine blk_drew ?_ | refine blk_alloc ?_ _)); exact BK226.out) hb); have n3_ := Aside0.mk (below_step (by repeat (first | (with_reducible first | exact HB.out | apply below_alloc | apply pw_below_drewN | apply below_drew1 | refine below_set ?_ GE220.out | refine below_set ?_ GE226.out) | exact HB.out)) hb); clear HO_5; clear BK220; clear BK226; clear HB; have HO_5 := n0_; have BK220 := n1_; have BK226 := n2_; have HB := n3_; clear n0_ n1_ n2_ n3_; (try clear hb); (try clear hb2); (try clear hk); (try clear hi)) | ((with_reducible refine gate_dst (N := 13) rfl ?_); refine box_event ?hg (N := 13) ?hd (cs := #[.int .i64 0, .int .i64 0, .int .i64 0]) (t := 30) ?hr ?_; (case hd => rfl); (case hg => rfl); (case hr => first | (go_simp; done) | (go_simp; rfl)); intro gb231 hg w50 hbox hb; have n0_ := Aside0.mk (Kd.R_below (Kd.R_elderB (by (with_reducible repeat (first | apply Kd.R_alloc | apply Kd.R_drewN | apply Kd.R_drew)); exact HO_5.out) gb231 (Nat.le_of_eq hg.symm)) hb); have n1_ := Aside0.mk (blk_below (g := gb220) (o := .cells #[.int .i64 t217, .int .i64 t218, .int .i64 ji7] 32 (0, 0)) (by (with_reducible repeat (first | refine blk_drewN ?_ _ | refine blk_drew ?_ | refine blk_alloc ?_ _)); exact BK220.out) hb); have n2_ := Aside0.mk (blk_below (g := gb226) (o := .cells #[.int .i64 t222, .int .i64 t223, .int .i64 t224] 30 (0, 0)) (by (with_reducible repeat (first | refine blk_drewN ?_ _ | refine blk_drew ?_ | refine blk_alloc ?_ _)); exact BK226.out) hb); have n3_ := Aside0.mk (below_step (by repeat (first | (with_reducible first | exact HB.out | apply below_alloc | apply pw_below_drewN | apply below_drew1 | refine below_set ?_ GE220.out | refine below_set ?_ GE226.out) | exact HB.out)) hb); have n4_ := Aside0.mk (hbox); have n5_ := Aside0.mk ((by rw [hg]; exact (below_size (by repeat (first | (with_reducible first | exact HB.out | apply below_alloc | apply pw_below_drewN | apply below_drew1 | refine below_set ?_ GE220.out | refine below_set ?_ GE226.out) | exact HB.out))) : w.heap.size ≤ gb231)); have n6_ := Aside0.mk ((by rw [hg]; exact (below_size (by repeat (first | (with_reducible first | exact HB.out | apply below_alloc | apply pw_below_drewN | apply below_drew1 | refine below_set ?_ GE220.out | refine below_set ?_ GE226.out) | exact HB.out))) : w.heap.size ≤ gb231)); have n7_ := Aside0.mk ((by rw [hg]; exact Nat.ne_of_lt (blk_lt (g := gb220) (o := .cells #[.int .i64 t217, .int .i64 t218, .int .i64 ji7] 32 (0, 0)) (by (with_reducible repeat (first | refine blk_drewN ?_ _ | refine blk_drew ?_ | refine blk_alloc ?_ _)); exact BK220.out)) : gb220 ≠ gb231)); have n8_ := Aside0.mk ((by rw [hg]; exact Nat.ne_of_gt (blk_lt (g := gb220) (o := .cells #[.int .i64 t217, .int .i64 t218, .int .i64 ji7] 32 (0, 0)) (by (with_reducible repeat (first | refine blk_drewN ?_ _ | refine blk_drew ?_ | refine blk_alloc ?_ _)); exact BK220.out)) : gb231 ≠ gb220)); have n9_ := Aside0.mk ((by rw [hg]; exact Nat.ne_of_lt (blk_lt (g := gb226) (o := .cells #[.int .i64 t222, .int .i64 t223, .int .i64 t224] 30 (0, 0)) (by (with_reducible repeat (first | refine blk_drewN ?_ _ | refine blk_drew ?_ | refine blk_alloc ?_ _)); exact BK226.out)) : gb226 ≠ gb231)); have n10_ := Aside0.mk ((by rw [hg]; exact Nat.ne_of_gt (blk_lt (g := gb226) (o := .cells #[.int .i64 t222, .int .i64 t223, .int .i64 t224] 30 (0, 0)) (by (with_reducible repeat (first | refine blk_drewN ?_ _ | refine blk_drew ?_ | refine blk_alloc ?_ _)); exact BK226.out)) : gb231 ≠ gb226)); clear HO_5; clear BK220; clear BK226; clear HB; have HO_5 := n0_; have BK220 := n1_; have BK226 := n2_; have HB := n3_; have BK231 := n4_; have GW231 := n5_; have GE231 := n6_; have NB220_231 := n7_; have NB231_220 := n8_; have NB226_231 := n9_; have NB231_226 := n10_; clear n0_ n1_ n2_ n3_ n4_ n5_ n6_ n7_ n8_ n9_ n10_; clear hb hbox hg; have hnb51 := NB231_220.out; have hnc51 := NB220_231.out; have hnb52 := NB231_226.out; have hnc52 := NB226_231.out; have hcz53_0 : w50.cell? ⟨gb231, 0, none⟩ = some (.int .i64 0) := (blk_cell BK231.out 0).trans rfl; have hcz53_1 : w50.cell? ⟨gb231, 1, none⟩ = some (.int .i64 0) := (blk_cell BK231.out 1).trans rfl; have hcz53_2 : w50.cell? ⟨gb231, 2, none⟩ = some (.int .i64 0) := (blk_cell BK231.out 2).trans rfl; have hfz53_0 := blk_frozen BK231.out 0; have hfz53_1 := blk_frozen BK231.out 1; have hfz53_2 := blk_frozen BK231.out 2; have hcz54_0 : w50.cell? ⟨gb226, 0, none⟩ = some (.int .i64 t222) := (blk_cell BK226.out 0).trans rfl; have hcz54_1 : w50.cell? ⟨gb226, 1, none⟩ = some (.int .i64 t223) := (blk_cell BK226.out 1).trans rfl; have hcz54_2 : w50.cell? ⟨gb226, 2, none⟩ = some (.int .i64 t224) := (blk_cell BK226.out 2).trans rfl; have hfz54_0 := blk_frozen BK226.out 0; have hfz54_1 := blk_frozen BK226.out 1; have hfz54_2 := blk_frozen BK226.out 2; have hcz55_0 : w50.cell? ⟨gb220, 0, none⟩ = some (.int .i64 t217) := (blk_cell BK220.out 0).trans rfl; have hcz55_1 : w50.cell? ⟨gb220, 1, none⟩ = some (.int .i64 t218) := (blk_cell BK220.out 1).trans rfl; have hcz55_2 : w50.cell? ⟨gb220, 2, none⟩ = some (.int .i64 ji7) := (blk_cell BK220.out 2).trans rfl; have hfz55_0 := blk_frozen BK220.out 0; have hfz55_1 := blk_frozen BK220.out 1; have hfz55_2 := blk_frozen BK220.out 2))
             go_roundg k2
             case measure => have := HK1.out; have := HK2.out; omega
             case rel => exact ⟨(true), (wrap64 (x12_2 + 1)), (by first | rfl | (simp; done) | (simp [*]; done)), (by first | rfl | (simp; done) | (simp [*]; done)), H', ⟨by have := HK1.out; have := HK2.out; omega⟩, ⟨by (with_reducible repeat (first | apply Kd.R_alloc | apply Kd.R_drewN | apply Kd.R_drew)); exact Kd.R_mono (Kd.R_far (p := ⟨gb231, 2, none⟩) (Kd.R_far (p := ⟨gb231, 1, none⟩) (Kd.R_far (p := ⟨gb231, 0, none⟩) (Kd.R_mono HO_5.out (fun k_ hk => (⟨hk, hk.2⟩ : _ ∧ k_ ≠ gb231))) (fun _ hk => hk.2) (.int .i64 t227)) (fun _ hk => hk.2) (.int .i64 t228)) (fun _ hk => hk.2) (.int .i64 t229)) (fun _ hk => hk.1.1)⟩, ⟨by (with_reducible repeat (first | refine blk_drewN ?_ _ | refine blk_drew ?_ | refine blk_alloc ?_ _)); refine blk_far ?_ NB220_231.out _; (with_reducible repeat (first | refine blk_drewN ?_ _ | refine blk_drew ?_ | refine blk_alloc ?_ _)); refine blk_far ?_ NB220_231.out _; (with_reducible repeat (first | refine blk_drewN ?_ _ | refine blk_drew ?_ | refine blk_alloc ?_ _)); refine blk_far ?_ NB220_231.out _; (with_reducible repeat (first | refine blk_drewN ?_ _ | refine blk_drew ?_ | refine blk_alloc ?_ _)); exact BK220.out⟩, ⟨by (with_reducible repeat (first | refine blk_drewN ?_ _ | refine blk_drew ?_ | refine blk_alloc ?_ _)); refine blk_far ?_ NB226_231.out _; (with_reducible repeat (first | refine blk_drewN ?_ _ | refine blk_drew ?_ | refine blk_alloc ?_ _)); refine blk_far ?_ NB226_231.out _; (with_reducible repeat (first | refine blk_drewN ?_ _ | refine blk_drew ?_ | refine blk_alloc ?_ _)); refine blk_far ?_ NB226_231.out _; (with_reducible repeat (first | refine blk_drewN ?_ _ | refine blk_drew ?_ | refine blk_alloc ?_ _)); exact BK226.out⟩, ⟨by repeat (first | (with_reducible first | exact HB.out | apply below_alloc | apply pw_below_drewN | apply below_drew1 | refine below_set ?_ GE220.out | refine below_set ?_ GE226.out | refine below_set ?_ GE231.out) | exact HB.out)⟩⟩
            ·
             rw [if_neg c45] at H
             have c45b0 : decide (x12_2 < t218) = false := decide_eq_false c45
             clear c45
             have H' := Aside0.mk H
             clear H
             have hnb56 := NB226_220.out
             have hnc56 := NB220_226.out
             have hcz57_0 : wr.cell? ⟨gb226, 0, none⟩ = some (.int .i64 t222) := (blk_cell BK226.out 0).trans rfl
             have hcz57_1 : wr.cell? ⟨gb226, 1, none⟩ = some (.int .i64 t223) := (blk_cell BK226.out 1).trans rfl
             have hcz57_2 : wr.cell? ⟨gb226, 2, none⟩ = some (.int .i64 t224) := (blk_cell BK226.out 2).trans rfl
             have hfz57_0 := blk_frozen BK226.out 0
             have hfz57_1 := blk_frozen BK226.out 1
             have hfz57_2 := blk_frozen BK226.out 2
             have hcz58_0 : wr.cell? ⟨gb220, 0, none⟩ = some (.int .i64 t217) := (blk_cell BK220.out 0).trans rfl
             have hcz58_1 : wr.cell? ⟨gb220, 1, none⟩ = some (.int .i64 t218) := (blk_cell BK220.out 1).trans rfl
             have hcz58_2 : wr.cell? ⟨gb220, 2, none⟩ = some (.int .i64 ji7) := (blk_cell BK220.out 2).trans rfl
             have hfz58_0 := blk_frozen BK220.out 0
             have hfz58_1 := blk_frozen BK220.out 1
             have hfz58_2 := blk_frozen BK220.out 2
             go_wp2_with (first | ((with_reducible refine gate_callee (f := 28) rfl ?_); refine goesL_ (some 67) rfl rfl Try.func28 (by kernel_rfl) rfl #[.slice Ao17 t211.length co17, .agg #[.int .i64 t217, .int .i64 x12_2]] rfl (by (try simp only [List.map_toArray, List.map_cons, List.map_nil]); first | done | rfl | (simp only [List.length_drop, List.length_take]; rfl)) ?_; (with_reducible refine (group_At.calls _ _ t211 t217 x12_2 t227 t228 t229 true _ ?side1 ?side2 A23.out).mono ?_); (case side1 => repeat (first | exact (Kd.R_reads' HO_5.out).2.2 | (with_reducible refine Kd.C_alloc ?_ _) | (with_reducible refine Kd.C_drewN ?_ _) | (with_reducible refine Kd.C_drew ?_))); (case side2 => exact (Kd.R_reads' HO_5.out).2.1); rintro e w59 ⟨rfl, hb⟩; refine ⟨_, rfl, ?_⟩; have n0_ := Aside0.mk (Kd.R_below (by (with_reducible repeat (first | apply Kd.R_alloc | apply Kd.R_drewN | apply Kd.R_drew)); exact HO_5.out) hb); have n1_ := Aside0.mk (blk_below (g := gb220) (o := .cells #[.int .i64 t217, .int .i64 t218, .int .i64 ji7] 32 (0, 0)) (by (with_reducible repeat (first | refine blk_drewN ?_ _ | refine blk_drew ?_ | refine blk_alloc ?_ _)); exact BK220.out) hb); have n2_ := Aside0.mk (blk_below (g := gb226) (o := .cells #[.int .i64 t222, .int .i64 t223, .int .i64 t224] 30 (0, 0)) (by (with_reducible repeat (first | refine blk_drewN ?_ _ | refine blk_drew ?_ | refine blk_alloc ?_ _)); exact BK226.out) hb); have n3_ := Aside0.mk (below_step (by repeat (first | (with_reducible first | exact HB.out | apply below_alloc | apply pw_below_drewN | apply below_drew1 | refine below_set ?_ GE220.out | refine below_set ?_ GE226.out) | exact HB.out)) hb); clear HO_5; clear BK220; clear BK226; clear HB; have HO_5 := n0_; have BK220 := n1_; have BK226 := n2_; have HB := n3_; clear n0_ n1_ n2_ n3_; (try clear hb); (try clear hb2); (try clear hk); (try clear hi)) | ((with_reducible refine gate_dst (N := 13) rfl ?_); refine box_event ?hg (N := 13) ?hd (cs := #[.int .i64 0, .int .i64 0, .int .i64 0]) (t := 30) ?hr ?_; (case hd => rfl); (case hg => rfl); (case hr => first | (go_simp; done) | (go_simp; rfl)); intro gb231 hg w60 hbox hb; have n0_ := Aside0.mk (Kd.R_below (Kd.R_elderB (by (with_reducible repeat (first | apply Kd.R_alloc | apply Kd.R_drewN | apply Kd.R_drew)); exact HO_5.out) gb231 (Nat.le_of_eq hg.symm)) hb); have n1_ := Aside0.mk (blk_below (g := gb220) (o := .cells #[.int .i64 t217, .int .i64 t218, .int .i64 ji7] 32 (0, 0)) (by (with_reducible repeat (first | refine blk_drewN ?_ _ | refine blk_drew ?_ | refine blk_alloc ?_ _)); exact BK220.out) hb); have n2_ := Aside0.mk (blk_below (g := gb226) (o := .cells #[.int .i64 t222, .int .i64 t223, .int .i64 t224] 30 (0, 0)) (by (with_reducible repeat (first | refine blk_drewN ?_ _ | refine blk_drew ?_ | refine blk_alloc ?_ _)); exact BK226.out) hb); have n3_ := Aside0.mk (below_step (by repeat (first | (with_reducible first | exact HB.out | apply below_alloc | apply pw_below_drewN | apply below_drew1 | refine below_set ?_ GE220.out | refine below_set ?_ GE226.out) | exact HB.out)) hb); have n4_ := Aside0.mk (hbox); have n5_ := Aside0.mk ((by rw [hg]; exact (below_size (by repeat (first | (with_reducible first | exact HB.out | apply below_alloc | apply pw_below_drewN | apply below_drew1 | refine below_set ?_ GE220.out | refine below_set ?_ GE226.out) | exact HB.out))) : w.heap.size ≤ gb231)); have n6_ := Aside0.mk ((by rw [hg]; exact (below_size (by repeat (first | (with_reducible first | exact HB.out | apply below_alloc | apply pw_below_drewN | apply below_drew1 | refine below_set ?_ GE220.out | refine below_set ?_ GE226.out) | exact HB.out))) : w.heap.size ≤ gb231)); have n7_ := Aside0.mk ((by rw [hg]; exact Nat.ne_of_lt (blk_lt (g := gb220) (o := .cells #[.int .i64 t217, .int .i64 t218, .int .i64 ji7] 32 (0, 0)) (by (with_reducible repeat (first | refine blk_drewN ?_ _ | refine blk_drew ?_ | refine blk_alloc ?_ _)); exact BK220.out)) : gb220 ≠ gb231)); have n8_ := Aside0.mk ((by rw [hg]; exact Nat.ne_of_gt (blk_lt (g := gb220) (o := .cells #[.int .i64 t217, .int .i64 t218, .int .i64 ji7] 32 (0, 0)) (by (with_reducible repeat (first | refine blk_drewN ?_ _ | refine blk_drew ?_ | refine blk_alloc ?_ _)); exact BK220.out)) : gb231 ≠ gb220)); have n9_ := Aside0.mk ((by rw [hg]; exact Nat.ne_of_lt (blk_lt (g := gb226) (o := .cells #[.int .i64 t222, .int .i64 t223, .int .i64 t224] 30 (0, 0)) (by (with_reducible repeat (first | refine blk_drewN ?_ _ | refine blk_drew ?_ | refine blk_alloc ?_ _)); exact BK226.out)) : gb226 ≠ gb231)); have n10_ := Aside0.mk ((by rw [hg]; exact Nat.ne_of_gt (blk_lt (g := gb226) (o := .cells #[.int .i64 t222, .int .i64 t223, .int .i64 t224] 30 (0, 0)) (by (with_reducible repeat (first | refine blk_drewN ?_ _ | refine blk_drew ?_ | refine blk_alloc ?_ _)); exact BK226.out)) : gb231 ≠ gb226)); clear HO_5; clear BK220; clear BK226; clear HB; have HO_5 := n0_; have BK220 := n1_; have BK226 := n2_; have HB := n3_; have BK231 := n4_; have GW231 := n5_; have GE231 := n6_; have NB220_231 := n7_; have NB231_220 := n8_; have NB226_231 := n9_; have NB231_226 := n10_; clear n0_ n1_ n2_ n3_ n4_ n5_ n6_ n7_ n8_ n9_ n10_; clear hb hbox hg; have hnb61 := NB231_220.out; have hnc61 := NB220_231.out; have hnb62 := NB231_226.out; have hnc62 := NB226_231.out; have hcz63_0 : w60.cell? ⟨gb231, 0, none⟩ = some (.int .i64 0) := (blk_cell BK231.out 0).trans rfl; have hcz63_1 : w60.cell? ⟨gb231, 1, none⟩ = some (.int .i64 0) := (blk_cell BK231.out 1).trans rfl; have hcz63_2 : w60.cell? ⟨gb231, 2, none⟩ = some (.int .i64 0) := (blk_cell BK231.out 2).trans rfl; have hfz63_0 := blk_frozen BK231.out 0; have hfz63_1 := blk_frozen BK231.out 1; have hfz63_2 := blk_frozen BK231.out 2; have hcz64_0 : w60.cell? ⟨gb226, 0, none⟩ = some (.int .i64 t222) := (blk_cell BK226.out 0).trans rfl; have hcz64_1 : w60.cell? ⟨gb226, 1, none⟩ = some (.int .i64 t223) := (blk_cell BK226.out 1).trans rfl; have hcz64_2 : w60.cell? ⟨gb226, 2, none⟩ = some (.int .i64 t224) := (blk_cell BK226.out 2).trans rfl; have hfz64_0 := blk_frozen BK226.out 0; have hfz64_1 := blk_frozen BK226.out 1; have hfz64_2 := blk_frozen BK226.out 2; have hcz65_0 : w60.cell? ⟨gb220, 0, none⟩ = some (.int .i64 t217) := (blk_cell BK220.out 0).trans rfl; have hcz65_1 : w60.cell? ⟨gb220, 1, none⟩ = some (.int .i64 t218) := (blk_cell BK220.out 1).trans rfl; have hcz65_2 : w60.cell? ⟨gb220, 2, none⟩ = some (.int .i64 ji7) := (blk_cell BK220.out 2).trans rfl; have hfz65_0 := blk_frozen BK220.out 0; have hfz65_1 := blk_frozen BK220.out 1; have hfz65_2 := blk_frozen BK220.out 2))
             go_roundg k2
             case measure => have := HK1.out; have := HK2.out; omega
             case rel => exact ⟨(decide (x12_2 ≥ ji7)), (wrap64 (x12_2 + 1)), (by first | rfl | (simp; done) | (simp only [← hji7] <;> (first | rfl | simp)) | (simp [*]; done)), (by first | rfl | (simp; done) | (simp [*]; done)), H', ⟨by have := HK1.out; have := HK2.out; omega⟩, ⟨by (with_reducible repeat (first | apply Kd.R_alloc | apply Kd.R_drewN | apply Kd.R_drew)); exact Kd.R_mono (Kd.R_far (p := ⟨gb231, 2, none⟩) (Kd.R_far (p := ⟨gb231, 1, none⟩) (Kd.R_far (p := ⟨gb231, 0, none⟩) (Kd.R_mono HO_5.out (fun k_ hk => (⟨hk, hk.2⟩ : _ ∧ k_ ≠ gb231))) (fun _ hk => hk.2) (.int .i64 t227)) (fun _ hk => hk.2) (.int .i64 t228)) (fun _ hk => hk.2) (.int .i64 t229)) (fun _ hk => hk.1.1)⟩, ⟨by (with_reducible repeat (first | refine blk_drewN ?_ _ | refine blk_drew ?_ | refine blk_alloc ?_ _)); refine blk_far ?_ NB220_231.out _; (with_reducible repeat (first | refine blk_drewN ?_ _ | refine blk_drew ?_ | refine blk_alloc ?_ _)); refine blk_far ?_ NB220_231.out _; (with_reducible repeat (first | refine blk_drewN ?_ _ | refine blk_drew ?_ | refine blk_alloc ?_ _)); refine blk_far ?_ NB220_231.out _; (with_reducible repeat (first | refine blk_drewN ?_ _ | refine blk_drew ?_ | refine blk_alloc ?_ _)); exact BK220.out⟩, ⟨by (with_reducible repeat (first | refine blk_drewN ?_ _ | refine blk_drew ?_ | refine blk_alloc ?_ _)); refine blk_far ?_ NB226_231.out _; (with_reducible repeat (first | refine blk_drewN ?_ _ | refine blk_drew ?_ | refine blk_alloc ?_ _)); refine blk_far ?_ NB226_231.out _; (with_reducible repeat (first | refine blk_drewN ?_ _ | refine blk_drew ?_ | refine blk_alloc ?_ _)); refine blk_far ?_ NB226_231.out _; (with_reducible repeat (first | refine blk_drewN ?_ _ | refine blk_drew ?_ | refine blk_alloc ?_ _)); exact BK226.out⟩, ⟨by repeat (first | (with_reducible first | exact HB.out | apply below_alloc | apply pw_below_drewN | apply below_drew1 | refine below_set ?_ GE220.out | refine below_set ?_ GE226.out | refine below_set ?_ GE231.out) | exact HB.out)⟩⟩
         ·
          replace c24 := Bool.eq_false_iff.mpr c24
          subst c24
          have H1 : (some false) = some r := by rw [if_neg (show ¬ (false = true) by decide)] at H; exact H
          clear H
          have H := H1
          clear H1
          obtain rfl := Option.some.inj H
          have hnb66 := NB226_220.out
          have hnc66 := NB220_226.out
          have hcz67_0 : wr.cell? ⟨gb226, 0, none⟩ = some (.int .i64 t222) := (blk_cell BK226.out 0).trans rfl
          have hcz67_1 : wr.cell? ⟨gb226, 1, none⟩ = some (.int .i64 t223) := (blk_cell BK226.out 1).trans rfl
          have hcz67_2 : wr.cell? ⟨gb226, 2, none⟩ = some (.int .i64 t224) := (blk_cell BK226.out 2).trans rfl
          have hfz67_0 := blk_frozen BK226.out 0
          have hfz67_1 := blk_frozen BK226.out 1
          have hfz67_2 := blk_frozen BK226.out 2
          have hcz68_0 : wr.cell? ⟨gb220, 0, none⟩ = some (.int .i64 t217) := (blk_cell BK220.out 0).trans rfl
          have hcz68_1 : wr.cell? ⟨gb220, 1, none⟩ = some (.int .i64 t218) := (blk_cell BK220.out 1).trans rfl
          have hcz68_2 : wr.cell? ⟨gb220, 2, none⟩ = some (.int .i64 ji7) := (blk_cell BK220.out 2).trans rfl
          have hfz68_0 := blk_frozen BK220.out 0
          have hfz68_1 := blk_frozen BK220.out 1
          have hfz68_2 := blk_frozen BK220.out 2
          go_wp2_with (first | ((with_reducible refine gate_callee (f := 28) rfl ?_); refine goesL_ (some 67) rfl rfl Try.func28 (by kernel_rfl) rfl #[.slice Ao17 t211.length co17, .agg #[.int .i64 t217, .int .i64 x12_2]] rfl (by (try simp only [List.map_toArray, List.map_cons, List.map_nil]); first | done | rfl | (simp only [List.length_drop, List.length_take]; rfl)) ?_; (with_reducible refine (group_At.calls _ _ t211 t217 x12_2 t227 t228 t229 false _ ?side1 ?side2 A23.out).mono ?_); (case side1 => repeat (first | exact (Kd.R_reads' HO_5.out).2.2 | (with_reducible refine Kd.C_alloc ?_ _) | (with_reducible refine Kd.C_drewN ?_ _) | (with_reducible refine Kd.C_drew ?_))); (case side2 => exact (Kd.R_reads' HO_5.out).2.1); rintro e w69 ⟨rfl, hb⟩; refine ⟨_, rfl, ?_⟩; have n0_ := Aside0.mk (Kd.R_below (by (with_reducible repeat (first | apply Kd.R_alloc | apply Kd.R_drewN | apply Kd.R_drew)); exact HO_5.out) hb); have n1_ := Aside0.mk (blk_below (g := gb220) (o := .cells #[.int .i64 t217, .int .i64 t218, .int .i64 ji7] 32 (0, 0)) (by (with_reducible repeat (first | refine blk_drewN ?_ _ | refine blk_drew ?_ | refine blk_alloc ?_ _)); exact BK220.out) hb); have n2_ := Aside0.mk (blk_below (g := gb226) (o := .cells #[.int .i64 t222, .int .i64 t223, .int .i64 t224] 30 (0, 0)) (by (with_reducible repeat (first | refine blk_drewN ?_ _ | refine blk_drew ?_ | refine blk_alloc ?_ _)); exact BK226.out) hb); have n3_ := Aside0.mk (below_step (by repeat (first | (with_reducible first | exact HB.out | apply below_alloc | apply pw_below_drewN | apply below_drew1 | refine below_set ?_ GE220.out | refine below_set ?_ GE226.out) | exact HB.out)) hb); clear HO_5; clear BK220; clear BK226; clear HB; have HO_5 := n0_; have BK220 := n1_; have BK226 := n2_; have HB := n3_; clear n0_ n1_ n2_ n3_; (try clear hb); (try clear hb2); (try clear hk); (try clear hi)) | ((with_reducible refine gate_dst (N := 13) rfl ?_); refine box_event ?hg (N := 13) ?hd (cs := #[.int .i64 0, .int .i64 0, .int .i64 0]) (t := 30) ?hr ?_; (case hd => rfl); (case hg => rfl); (case hr => first | (go_simp; done) | (go_simp; rfl)); intro gb231 hg w70 hbox hb; have n0_ := Aside0.mk (Kd.R_below (Kd.R_elderB (by (with_reducible repeat (first | apply Kd.R_alloc | apply Kd.R_drewN | apply Kd.R_drew)); exact HO_5.out) gb231 (Nat.le_of_eq hg.symm)) hb); have n1_ := Aside0.mk (blk_below (g := gb220) (o := .cells #[.int .i64 t217, .int .i64 t218, .int .i64 ji7] 32 (0, 0)) (by (with_reducible repeat (first | refine blk_drewN ?_ _ | refine blk_drew ?_ | refine blk_alloc ?_ _)); exact BK220.out) hb); have n2_ := Aside0.mk (blk_below (g := gb226) (o := .cells #[.int .i64 t222, .int .i64 t223, .int .i64 t224] 30 (0, 0)) (by (with_reducible repeat (first | refine blk_drewN ?_ _ | refine blk_drew ?_ | refine blk_alloc ?_ _)); exact BK226.out) hb); have n3_ := Aside0.mk (below_step (by repeat (first | (with_reducible first | exact HB.out | apply below_alloc | apply pw_below_drewN | apply below_drew1 | refine below_set ?_ GE220.out | refine below_set ?_ GE226.out) | exact HB.out)) hb); have n4_ := Aside0.mk (hbox); have n5_ := Aside0.mk ((by rw [hg]; exact (below_size (by repeat (first | (with_reducible first | exact HB.out | apply below_alloc | apply pw_below_drewN | apply below_drew1 | refine below_set ?_ GE220.out | refine below_set ?_ GE226.out) | exact HB.out))) : w.heap.size ≤ gb231)); have n6_ := Aside0.mk ((by rw [hg]; exact (below_size (by repeat (first | (with_reducible first | exact HB.out | apply below_alloc | apply pw_below_drewN | apply below_drew1 | refine below_set ?_ GE220.out | refine below_set ?_ GE226.out) | exact HB.out))) : w.heap.size ≤ gb231)); have n7_ := Aside0.mk ((by rw [hg]; exact Nat.ne_of_lt (blk_lt (g := gb220) (o := .cells #[.int .i64 t217, .int .i64 t218, .int .i64 ji7] 32 (0, 0)) (by (with_reducible repeat (first | refine blk_drewN ?_ _ | refine blk_drew ?_ | refine blk_alloc ?_ _)); exact BK220.out)) : gb220 ≠ gb231)); have n8_ := Aside0.mk ((by rw [hg]; exact Nat.ne_of_gt (blk_lt (g := gb220) (o := .cells #[.int .i64 t217, .int .i64 t218, .int .i64 ji7] 32 (0, 0)) (by (with_reducible repeat (first | refine blk_drewN ?_ _ | refine blk_drew ?_ | refine blk_alloc ?_ _)); exact BK220.out)) : gb231 ≠ gb220)); have n9_ := Aside0.mk ((by rw [hg]; exact Nat.ne_of_lt (blk_lt (g := gb226) (o := .cells #[.int .i64 t222, .int .i64 t223, .int .i64 t224] 30 (0, 0)) (by (with_reducible repeat (first | refine blk_drewN ?_ _ | refine blk_drew ?_ | refine blk_alloc ?_ _)); exact BK226.out)) : gb226 ≠ gb231)); have n10_ := Aside0.mk ((by rw [hg]; exact Nat.ne_of_gt (blk_lt (g := gb226) (o := .cells #[.int .i64 t222, .int .i64 t223, .int .i64 t224] 30 (0, 0)) (by (with_reducible repeat (first | refine blk_drewN ?_ _ | refine blk_drew ?_ | refine blk_alloc ?_ _)); exact BK226.out)) : gb231 ≠ gb226)); clear HO_5; clear BK220; clear BK226; clear HB; have HO_5 := n0_; have BK220 := n1_; have BK226 := n2_; have HB := n3_; have BK231 := n4_; have GW231 := n5_; have GE231 := n6_; have NB220_231 := n7_; have NB231_220 := n8_; have NB226_231 := n9_; have NB231_226 := n10_; clear n0_ n1_ n2_ n3_ n4_ n5_ n6_ n7_ n8_ n9_ n10_; clear hb hbox hg; have hnb71 := NB231_220.out; have hnc71 := NB220_231.out; have hnb72 := NB231_226.out; have hnc72 := NB226_231.out; have hcz73_0 : w70.cell? ⟨gb231, 0, none⟩ = some (.int .i64 0) := (blk_cell BK231.out 0).trans rfl; have hcz73_1 : w70.cell? ⟨gb231, 1, none⟩ = some (.int .i64 0) := (blk_cell BK231.out 1).trans rfl; have hcz73_2 : w70.cell? ⟨gb231, 2, none⟩ = some (.int .i64 0) := (blk_cell BK231.out 2).trans rfl; have hfz73_0 := blk_frozen BK231.out 0; have hfz73_1 := blk_frozen BK231.out 1; have hfz73_2 := blk_frozen BK231.out 2))
          go_ret
          exact ⟨by first | rfl | (simp [errW_none, errW_some] <;> rfl) | (simp only [← hji7]; first | rfl | (simp [errW_none, errW_some] <;> rfl)) | (simp [*, errW_none, errW_some] <;> rfl), by repeat (first | (with_reducible first | exact HB.out | apply below_alloc | apply pw_below_drewN | apply below_drew1 | refine below_set ?_ GE220.out | refine below_set ?_ GE226.out | refine below_set ?_ GE231.out) | exact HB.out)⟩
        ·
         rw [if_neg c22] at H
         have c22b0 : decide (x12_2 < (wrap64 (t223 + t224))) = false := decide_eq_false c22
         clear c22
         have H' := Aside0.mk H
         clear H
         have hnb74 := NB226_220.out
         have hnc74 := NB220_226.out
         have hcz75_0 : wr.cell? ⟨gb226, 0, none⟩ = some (.int .i64 t222) := (blk_cell BK226.out 0).trans rfl
         have hcz75_1 : wr.cell? ⟨gb226, 1, none⟩ = some (.int .i64 t223) := (blk_cell BK226.out 1).trans rfl
         have hcz75_2 : wr.cell? ⟨gb226, 2, none⟩ = some (.int .i64 t224) := (blk_cell BK226.out 2).trans rfl
         have hfz75_0 := blk_frozen BK226.out 0
         have hfz75_1 := blk_frozen BK226.out 1
         have hfz75_2 := blk_frozen BK226.out 2
         go_wp2
         go_roundg k2
         case measure => have := HK1.out; have := HK2.out; omega
         case rel => exact ⟨(x8_2), (wrap64 (x9_1 + 1)), (by first | rfl | (simp; done) | (simp [*]; done)), (by first | rfl | (simp; done) | (simp [*]; done)), H', ⟨by have := HK1.out; have := HK2.out; omega⟩, ⟨by (with_reducible repeat (first | apply Kd.R_alloc | apply Kd.R_drewN | apply Kd.R_drew)); exact Kd.R_mono HO_5.out (fun _ hk => trivial)⟩, ⟨by (with_reducible repeat (first | refine blk_drewN ?_ _ | refine blk_drew ?_ | refine blk_alloc ?_ _)); exact BK220.out⟩, ⟨by repeat (first | (with_reducible first | exact HB.out | apply below_alloc | apply pw_below_drewN | apply below_drew1 | refine below_set ?_ GE220.out | refine below_set ?_ GE226.out) | exact HB.out)⟩⟩
     ·
      replace c15 := Bool.eq_false_iff.mpr c15
      subst c15
      have H1 : (busbarlaw14_GroupWhole.l0 k1 t211 x8_1 (wrap64 (x9_1 + 1)) t217 t218 ji7) = some r := by rw [if_neg (show ¬ (false = true) by decide)] at H; exact H
      clear H
      have H := H1
      clear H1
      have H' := Aside0.mk H
      clear H
      have hcz76_0 : wr.cell? ⟨gb220, 0, none⟩ = some (.int .i64 t217) := (blk_cell BK220.out 0).trans rfl
      have hcz76_1 : wr.cell? ⟨gb220, 1, none⟩ = some (.int .i64 t218) := (blk_cell BK220.out 1).trans rfl
      have hcz76_2 : wr.cell? ⟨gb220, 2, none⟩ = some (.int .i64 ji7) := (blk_cell BK220.out 2).trans rfl
      have hfz76_0 := blk_frozen BK220.out 0
      have hfz76_1 := blk_frozen BK220.out 1
      have hfz76_2 := blk_frozen BK220.out 2
      obtain ⟨Ao77, co77, eo77⟩ := Kd.R_slice HO_5.out
      subst eo77
      go_wp2_with (first | ((with_reducible refine gate_callee (f := 28) rfl ?_); refine goesL_ (some 45) rfl rfl Try.func28 (by kernel_rfl) rfl #[.slice Ao77 t211.length co77, .agg #[.int .i64 t217, .int .i64 x9_1]] rfl (by (try simp only [List.map_toArray, List.map_cons, List.map_nil]); first | done | rfl | (simp only [List.length_drop, List.length_take]; rfl)) ?_; (with_reducible refine (group_At.calls _ _ t211 t217 x9_1 t222 t223 t224 false _ ?side1 ?side2 A14.out).mono ?_); (case side1 => repeat (first | exact (Kd.R_reads' HO_5.out).2.2 | (with_reducible refine Kd.C_alloc ?_ _) | (with_reducible refine Kd.C_drewN ?_ _) | (with_reducible refine Kd.C_drew ?_))); (case side2 => exact (Kd.R_reads' HO_5.out).2.1); rintro e w78 ⟨rfl, hb⟩; refine ⟨_, rfl, ?_⟩; have n0_ := Aside0.mk (Kd.R_below (by (with_reducible repeat (first | apply Kd.R_alloc | apply Kd.R_drewN | apply Kd.R_drew)); exact HO_5.out) hb); have n1_ := Aside0.mk (blk_below (g := gb220) (o := .cells #[.int .i64 t217, .int .i64 t218, .int .i64 ji7] 32 (0, 0)) (by (with_reducible repeat (first | refine blk_drewN ?_ _ | refine blk_drew ?_ | refine blk_alloc ?_ _)); exact BK220.out) hb); have n2_ := Aside0.mk (below_step (by repeat (first | (with_reducible first | exact HB.out | apply below_alloc | apply pw_below_drewN | apply below_drew1 | refine below_set ?_ GE220.out) | exact HB.out)) hb); clear HO_5; clear BK220; clear HB; have HO_5 := n0_; have BK220 := n1_; have HB := n2_; clear n0_ n1_ n2_; (try clear hb); (try clear hb2); (try clear hk); (try clear hi)) | ((with_reducible refine gate_dst (N := 10) rfl ?_); refine box_event ?hg (N := 10) ?hd (cs := #[.int .i64 0, .int .i64 0, .int .i64 0]) (t := 30) ?hr ?_; (case hd => rfl); (case hg => rfl); (case hr => first | (go_simp; done) | (go_simp; rfl)); intro gb226 hg w79 hbox hb; have n0_ := Aside0.mk (Kd.R_below (Kd.R_elderB (by (with_reducible repeat (first | apply Kd.R_alloc | apply Kd.R_drewN | apply Kd.R_drew)); exact HO_5.out) gb226 (Nat.le_of_eq hg.symm)) hb); have n1_ := Aside0.mk (blk_below (g := gb220) (o := .cells #[.int .i64 t217, .int .i64 t218, .int .i64 ji7] 32 (0, 0)) (by (with_reducible repeat (first | refine blk_drewN ?_ _ | refine blk_drew ?_ | refine blk_alloc ?_ _)); exact BK220.out) hb); have n2_ := Aside0.mk (below_step (by repeat (first | (with_reducible first | exact HB.out | apply below_alloc | apply pw_below_drewN | apply below_drew1 | refine below_set ?_ GE220.out) | exact HB.out)) hb); have n3_ := Aside0.mk (hbox); have n4_ := Aside0.mk ((by rw [hg]; exact (below_size (by repeat (first | (with_reducible first | exact HB.out | apply below_alloc | apply pw_below_drewN | apply below_drew1 | refine below_set ?_ GE220.out) | exact HB.out))) : w.heap.size ≤ gb226)); have n5_ := Aside0.mk ((by rw [hg]; exact (below_size (by repeat (first | (with_reducible first | exact HB.out | apply below_alloc | apply pw_below_drewN | apply below_drew1 | refine below_set ?_ GE220.out) | exact HB.out))) : w.heap.size ≤ gb226)); have n6_ := Aside0.mk ((by rw [hg]; exact Nat.ne_of_lt (blk_lt (g := gb220) (o := .cells #[.int .i64 t217, .int .i64 t218, .int .i64 ji7] 32 (0, 0)) (by (with_reducible repeat (first | refine blk_drewN ?_ _ | refine blk_drew ?_ | refine blk_alloc ?_ _)); exact BK220.out)) : gb220 ≠ gb226)); have n7_ := Aside0.mk ((by rw [hg]; exact Nat.ne_of_gt (blk_lt (g := gb220) (o := .cells #[.int .i64 t217, .int .i64 t218, .int .i64 ji7] 32 (0, 0)) (by (with_reducible repeat (first | refine blk_drewN ?_ _ | refine blk_drew ?_ | refine blk_alloc ?_ _)); exact BK220.out)) : gb226 ≠ gb220)); clear HO_5; clear BK220; clear HB; have HO_5 := n0_; have BK220 := n1_; have HB := n2_; have BK226 := n3_; have GW226 := n4_; have GE226 := n5_; have NB220_226 := n6_; have NB226_220 := n7_; clear n0_ n1_ n2_ n3_ n4_ n5_ n6_ n7_; clear hb hbox hg; have hnb80 := NB226_220.out; have hnc80 := NB220_226.out; have hcz81_0 : w79.cell? ⟨gb226, 0, none⟩ = some (.int .i64 0) := (blk_cell BK226.out 0).trans rfl; have hcz81_1 : w79.cell? ⟨gb226, 1, none⟩ = some (.int .i64 0) := (blk_cell BK226.out 1).trans rfl; have hcz81_2 : w79.cell? ⟨gb226, 2, none⟩ = some (.int .i64 0) := (blk_cell BK226.out 2).trans rfl; have hfz81_0 := blk_frozen BK226.out 0; have hfz81_1 := blk_frozen BK226.out 1; have hfz81_2 := blk_frozen BK226.out 2))
      go_roundg k1
      case measure => have := HK1.out; omega
      case rel => exact ⟨(x8_1), (wrap64 (x9_1 + 1)), (by first | rfl | (simp; done) | (simp [*]; done)), (by first | rfl | (simp; done) | (simp [*]; done)), H', ⟨by have := HK1.out; omega⟩, ⟨by (with_reducible repeat (first | apply Kd.R_alloc | apply Kd.R_drewN | apply Kd.R_drew)); exact Kd.R_mono (Kd.R_far (p := ⟨gb226, 2, none⟩) (Kd.R_far (p := ⟨gb226, 1, none⟩) (Kd.R_far (p := ⟨gb226, 0, none⟩) (Kd.R_mono HO_5.out (fun k_ hk => (⟨hk, hk.2⟩ : _ ∧ k_ ≠ gb226))) (fun _ hk => hk.2) (.int .i64 t222)) (fun _ hk => hk.2) (.int .i64 t223)) (fun _ hk => hk.2) (.int .i64 t224)) (fun _ hk => trivial)⟩, ⟨by (with_reducible repeat (first | refine blk_drewN ?_ _ | refine blk_drew ?_ | refine blk_alloc ?_ _)); refine blk_far ?_ NB220_226.out _; (with_reducible repeat (first | refine blk_drewN ?_ _ | refine blk_drew ?_ | refine blk_alloc ?_ _)); refine blk_far ?_ NB220_226.out _; (with_reducible repeat (first | refine blk_drewN ?_ _ | refine blk_drew ?_ | refine blk_alloc ?_ _)); refine blk_far ?_ NB220_226.out _; (with_reducible repeat (first | refine blk_drewN ?_ _ | refine blk_drew ?_ | refine blk_alloc ?_ _)); exact BK220.out⟩, ⟨by repeat (first | (with_reducible first | exact HB.out | apply below_alloc | apply pw_below_drewN | apply below_drew1 | refine below_set ?_ GE220.out | refine below_set ?_ GE226.out) | exact HB.out)⟩⟩
    ·
     rw [if_neg c13] at H
     have c13b0 : decide (x9_1 < ji7) = false := decide_eq_false c13
     clear c13
     replace H := Option.bind_eq_some_iff.mp H
     obtain ⟨t221, A820, H⟩ := H
     replace H : (some (t221 == x8_1)) = some r := H
     have A82 := Aside0.mk A820
     clear A820
     obtain rfl := Option.some.inj H
     have hcz83_0 : wr.cell? ⟨gb220, 0, none⟩ = some (.int .i64 t217) := (blk_cell BK220.out 0).trans rfl
     have hcz83_1 : wr.cell? ⟨gb220, 1, none⟩ = some (.int .i64 t218) := (blk_cell BK220.out 1).trans rfl
     have hcz83_2 : wr.cell? ⟨gb220, 2, none⟩ = some (.int .i64 ji7) := (blk_cell BK220.out 2).trans rfl
     have hfz83_0 := blk_frozen BK220.out 0
     have hfz83_1 := blk_frozen BK220.out 1
     have hfz83_2 := blk_frozen BK220.out 2
     obtain ⟨Ao84, co84, eo84⟩ := Kd.R_slice HO_5.out
     subst eo84
     go_wp2_with (first | ((with_reducible refine gate_callee (f := 15) rfl ?_); refine goesL_ (some 92) rfl rfl Try.func15 (by kernel_rfl) rfl #[.slice Ao84 t211.length co84, .agg #[.int .i64 t217, .int .i64 t218, .int .i64 ji7]] rfl (by (try simp only [List.map_toArray, List.map_cons, List.map_nil]); first | done | (simp only [hji7]; rfl) | rfl | (simp only [List.length_drop, List.length_take]; rfl)) ?_; (with_reducible refine (group_Splits.calls k1 _ _ t211 t217 t218 ji7 t221 _ ?side1 ?side2 A82.out).mono ?_); (case side1 => repeat (first | exact (Kd.R_reads' HO_5.out).2.2 | (with_reducible refine Kd.C_alloc ?_ _) | (with_reducible refine Kd.C_drewN ?_ _) | (with_reducible refine Kd.C_drew ?_))); (case side2 => exact (Kd.R_reads' HO_5.out).2.1); rintro e w85 ⟨rfl, hb⟩; refine ⟨_, rfl, ?_⟩; have n0_ := Aside0.mk (Kd.R_below (by (with_reducible repeat (first | apply Kd.R_alloc | apply Kd.R_drewN | apply Kd.R_drew)); exact HO_5.out) hb); have n1_ := Aside0.mk (blk_below (g := gb220) (o := .cells #[.int .i64 t217, .int .i64 t218, .int .i64 ji7] 32 (0, 0)) (by (with_reducible repeat (first | refine blk_drewN ?_ _ | refine blk_drew ?_ | refine blk_alloc ?_ _)); exact BK220.out) hb); have n2_ := Aside0.mk (below_step (by repeat (first | (with_reducible first | exact HB.out | apply below_alloc | apply pw_below_drewN | apply below_drew1 | refine below_set ?_ GE220.out) | exact HB.out)) hb); clear HO_5; clear BK220; clear HB; have HO_5 := n0_; have BK220 := n1_; have HB := n2_; clear n0_ n1_ n2_; (try clear hb); (try clear hb2); (try clear hk); (try clear hi)))
     go_ret
     exact ⟨by first | rfl | (simp [errW_none, errW_some] <;> rfl) | (simp only [← hji7]; first | rfl | (simp [errW_none, errW_some] <;> rfl)) | (simp [*, errW_none, errW_some] <;> rfl), by repeat (first | (with_reducible first | exact HB.out | apply below_alloc | apply pw_below_drewN | apply below_drew1 | refine below_set ?_ GE220.out) | exact HB.out)⟩
 ·
  replace c4 := Bool.eq_false_iff.mpr c4
  subst c4
  have H1 : (some false) = some r := by rw [if_neg (show ¬ (false = true) by decide)] at H; exact H
  clear H
  have H := H1
  clear H1
  obtain rfl := Option.some.inj H
  go_enter Try.func9, Try.ntmps9
  go_wp2_with (first | ((with_reducible refine gate_callee (f := 12) rfl ?_); refine goesL_ (some 15) rfl rfl Try.func12 (by kernel_rfl) rfl #[] rfl (by (try simp only [List.map_toArray, List.map_cons, List.map_nil]); first | done | rfl | (simp only [List.length_drop, List.length_take]; rfl)) ?_; (with_reducible refine (busbarlaw14_awake.calls k  false _ A3.out).mono ?_); rintro e w86 ⟨rfl, hb⟩; refine ⟨_, rfl, ?_⟩; have n0_ := Aside0.mk (below_step (by repeat (first | (with_reducible first | exact HB.out | apply below_alloc | apply pw_below_drewN | apply below_drew1) | exact HB.out)) hb); clear HB; have HB := n0_; clear n0_; (try clear hb); (try clear hb2); (try clear hk); (try clear hi)))
  go_ret
  exact ⟨by first | rfl | (simp [errW_none, errW_some] <;> rfl) | (simp [*, errW_none, errW_some] <;> rfl), by repeat (first | (with_reducible first | exact HB.out | apply below_alloc | apply pw_below_drewN | apply below_drew1) | exact HB.out)⟩

/-- THE ONE PURE STATEMENT of busbarlaw14_GroupWhole: yours. -/
def busbarlaw14_GroupWhole.Pure : Prop := ∀ (l0 : List Int) (a1 : Int), l0.length ≤ maxLen → l0.length * 8 ≤ 140737488351232 → (∀ x ∈ l0, (Lit.int .i64 x).wf = true) → (Lit.int .i64 a1).wf = true → ∃ k, busbarlaw14_GroupWhole.f k l0 a1 = some true
theorem busbarlaw14_GroupWhole.walk (P : busbarlaw14_GroupWhole.Pure) (a0 : Option Addr) (len0 cap0 : Nat) (z0 : List Int) (a1 : Int) (w : World) (w0 : (a0 = none ∧ len0 = 0 ∧ cap0 = 0 ∧ z0 = []) ∨ ∃ x, a0 = some x ∧ len0 ≤ cap0 ∧ cap0 ≤ maxLen ∧ z0.length = cap0 ∧ (∀ i, i < z0.length → w.cell? (x.add i) = some (.int .i64 (z0.getD i 0))) ∧ ∀ n ∈ z0, (Lit.int .i64 n).wf = true) (y0 : len0 * 8 ≤ 140737488351232) (w1 : (Lit.int .i64 a1).wf = true) :
  Calls Try.prog 9 #[.slice a0 len0 cap0, .int .i64 a1] w fun e w' => e = .returned (.bool true) ∧ Below w.heap.size w w' := by
 obtain ⟨l0, rfl, hr0, hm0, hw0, hc0⟩ := ReadsInt.ofRowC w0
 obtain ⟨k, h⟩ := P l0 a1 hm0 y0 hw0 w1
 refine (busbarlaw14_GroupWhole.calls k _ _ l0 a1 true w (Kd.C_of_reads (d := (0 : Int)) (h1 := fun _ => rfl) hr0) hc0 h).mono ?_
 rintro e w' ⟨rfl, hd⟩
 exact ⟨rfl, hd⟩

end Go.Proofs.Ytmbkbpaoiilicaa.PGroupA
