/- Words and walks for FlowPlays (made of the session's own texts; each part by itself). -/
import Derived.Test.YtakiojmjalbfpaaZFlowPlays10
namespace Go.Proofs.Ytakiojmjalbfpaa.PFlow
open Go.RowKit Go.Proofs.YtakiojmjalbfpaaW.PrintWords Go.Proofs.YtakiojmjalbfpaaW.PrintLast Go.Proofs.YtakiojmjalbfpaaW.PrintMore
attribute [local go_sem] max2_int min2_int max_two min_two max_three min_three max_four min_four plus_setCell_drewN plus_cell_same   -- for this text's walks alone
set_option linter.unusedVariables false
set_option linter.unusedSimpArgs false
mutual
def busbarref5_Right.j0 : Nat → Bool → Int → Int → Int → Int → Int → Int → List Bool → List Int → Int → Int → Int → Int → Option (Bool)
 | 0, _, _, _, _, _, _, _, _, _, _, _, _, _ => none
 | k + 1, x25, x226000, x226001, x226002, x226003, x226004, x226005, x226006, x226007, x226008, x226009, x226010, x226011 => if x25 = true then (some false) else ((busbarref1_Most.f k x226000).bind fun bt230 => (if x226000 = 1 then (busbarref5_Right.j1 k bt230.1 bt230.2 x226000 (x226000 == 1) x226000 x226001 x226002 x226003 x226004 x226005 x226006 x226007 x226008 x226009 x226010 x226011) else (if x226000 = 2 then (busbarref5_Right.j1 k bt230.1 bt230.2 x226000 (x226000 == 2) x226000 x226001 x226002 x226003 x226004 x226005 x226006 x226007 x226008 x226009 x226010 x226011) else (if x226000 = 3 then (busbarref5_Right.j1 k bt230.1 bt230.2 x226000 (x226000 == 3) x226000 x226001 x226002 x226003 x226004 x226005 x226006 x226007 x226008 x226009 x226010 x226011) else (busbarref5_Right.j1 k bt230.1 bt230.2 x226000 (x226000 == 4) x226000 x226001 x226002 x226003 x226004 x226005 x226006 x226007 x226008 x226009 x226010 x226011)))))
def busbarref5_Right.j1 : Nat → Int → Int → Int → Bool → Int → Int → Int → Int → Int → Int → List Bool → List Int → Int → Int → Int → Int → Option (Bool)
 | 0, _, _, _, _, _, _, _, _, _, _, _, _, _, _, _, _ => none
 | k + 1, x3, x4, x33, x34, x226000, x226001, x226002, x226003, x226004, x226005, x226006, x226007, x226008, x226009, x226010, x226011 => if x34 = true then (if x226002 ≥ 1 then (some (decide (x226002 ≤ x3))) else (some false)) else (if x33 = 5 then (some (decide (x226003 ≤ 1))) else (if x33 = 15 then (if x226002 ≥ 1 then (if x226002 ≤ x4 then (some ((x226006.length : Int) == x226002)) else (some false)) else (some false)) else (if x33 = 16 then (if x226002 ≥ 1 then (if x226002 ≤ x4 then (some ((x226007.length : Int) == x226002)) else (some false)) else (some false)) else (if x33 = 23 then (if x226002 ≥ 1 then (if x226002 ≤ x4 then (if (x226007.length : Int) = x226002 then (if x226009 ≥ 1 then (some (decide (x226009 ≤ x3))) else (some false)) else (some false)) else (some false)) else (some false)) else (if x33 = 43 then (if x226010 ≥ 1 then (if x226010 ≤ 4 then ((busbarref5_byteful.f x226011).bind fun t232 => (some t232)) else (some false)) else (some false)) else (some true))))))
end
def busbarref5_Right.f (k : Nat) (a0_0 : Int) (a0_1 : Int) (a0_2 : Int) (a0_3 : Int) (a0_4 : Int) (a0_5 : Int) (l0_6 : List Bool) (l0_7 : List Int) (a0_8 : Int) (a0_9 : Int) (a0_10 : Int) (a0_11 : Int) : Option (Bool) := (busbarref1_Known.f a0_0).bind fun t226 => (if t226 = true then ((busbarref5_plain.f k a0_0 a0_1 a0_2 a0_3 a0_4 a0_5 l0_6 l0_7 a0_8 a0_9 a0_10 a0_11).bind fun t227 => (if t227 = true then ((busbarref5_place.f a0_1).bind fun t228 => (if t228 = true then ((busbarref5_place.f a0_8).bind fun t229 => (busbarref5_Right.j0 k (!t229) a0_0 a0_1 a0_2 a0_3 a0_4 a0_5 l0_6 l0_7 a0_8 a0_9 a0_10 a0_11)) else (busbarref5_Right.j0 k true a0_0 a0_1 a0_2 a0_3 a0_4 a0_5 l0_6 l0_7 a0_8 a0_9 a0_10 a0_11))) else (busbarref5_Right.j0 k true a0_0 a0_1 a0_2 a0_3 a0_4 a0_5 l0_6 l0_7 a0_8 a0_9 a0_10 a0_11))) else (busbarref5_Right.j0 k true a0_0 a0_1 a0_2 a0_3 a0_4 a0_5 l0_6 l0_7 a0_8 a0_9 a0_10 a0_11))
theorem busbarref5_Right.mono_l : ∀ k, (∀ y0 y1 y2 y3 y4 y5 y6 y7 y8 y9 y10 y11 y12, LeO (busbarref5_Right.j0 k y0 y1 y2 y3 y4 y5 y6 y7 y8 y9 y10 y11 y12) (busbarref5_Right.j0 (k + 1) y0 y1 y2 y3 y4 y5 y6 y7 y8 y9 y10 y11 y12)) ∧ (∀ y0 y1 y2 y3 y4 y5 y6 y7 y8 y9 y10 y11 y12 y13 y14 y15, LeO (busbarref5_Right.j1 k y0 y1 y2 y3 y4 y5 y6 y7 y8 y9 y10 y11 y12 y13 y14 y15) (busbarref5_Right.j1 (k + 1) y0 y1 y2 y3 y4 y5 y6 y7 y8 y9 y10 y11 y12 y13 y14 y15))
 | 0 => ⟨fun _ _ _ _ _ _ _ _ _ _ _ _ _ r h => by simp [busbarref5_Right.j0] at h, fun _ _ _ _ _ _ _ _ _ _ _ _ _ _ _ _ r h => by simp [busbarref5_Right.j1] at h⟩
 | k + 1 => by
  obtain ⟨ih0, ih1⟩ := busbarref5_Right.mono_l k
  refine ⟨?_, ?_⟩
  ·
   intro y0 y1 y2 y3 y4 y5 y6 y7 y8 y9 y10 y11 y12
   unfold busbarref5_Right.j0
   repeat' first
   | (with_reducible exact ih0 _ _ _ _ _ _ _ _ _ _ _ _ _)
   | (with_reducible exact ih1 _ _ _ _ _ _ _ _ _ _ _ _ _ _ _ _)
   | (with_reducible exact busbarref1_Most.mono _ _)
   | (with_reducible exact busbarref5_plain.mono _ _ _ _ _ _ _ _ _ _ _ _ _)
   | (with_reducible exact LeO.refl _)
   | (with_reducible exact LeO.none _)
   | (with_reducible refine LeO.ite ?_ ?_)
   | (with_reducible refine LeO.bind ?_ (fun _ => ?_))
   | exact ih0 _ _ _ _ _ _ _ _ _ _ _ _ _
   | exact ih1 _ _ _ _ _ _ _ _ _ _ _ _ _ _ _ _
   | exact busbarref1_Most.mono _ _
   | exact busbarref5_plain.mono _ _ _ _ _ _ _ _ _ _ _ _ _
   | exact LeO.none _
   | refine LeO.ite ?_ ?_
   | refine LeO.bind ?_ (fun _ => ?_)
  ·
   intro y0 y1 y2 y3 y4 y5 y6 y7 y8 y9 y10 y11 y12 y13 y14 y15
   unfold busbarref5_Right.j1
   repeat' first
   | (with_reducible exact ih0 _ _ _ _ _ _ _ _ _ _ _ _ _)
   | (with_reducible exact ih1 _ _ _ _ _ _ _ _ _ _ _ _ _ _ _ _)
   | (with_reducible exact busbarref1_Most.mono _ _)
   | (with_reducible exact busbarref5_plain.mono _ _ _ _ _ _ _ _ _ _ _ _ _)
   | (with_reducible exact LeO.refl _)
   | (with_reducible exact LeO.none _)
   | (with_reducible refine LeO.ite ?_ ?_)
   | (with_reducible refine LeO.bind ?_ (fun _ => ?_))
   | exact ih0 _ _ _ _ _ _ _ _ _ _ _ _ _
   | exact ih1 _ _ _ _ _ _ _ _ _ _ _ _ _ _ _ _
   | exact busbarref1_Most.mono _ _
   | exact busbarref5_plain.mono _ _ _ _ _ _ _ _ _ _ _ _ _
   | exact LeO.none _
   | refine LeO.ite ?_ ?_
   | refine LeO.bind ?_ (fun _ => ?_)
theorem busbarref5_Right.mono : ∀ a0 a1 a2 a3 a4 a5 a6 a7 a8 a9 a10 a11 k, LeO (busbarref5_Right.f k a0 a1 a2 a3 a4 a5 a6 a7 a8 a9 a10 a11) (busbarref5_Right.f (k + 1) a0 a1 a2 a3 a4 a5 a6 a7 a8 a9 a10 a11) := by
 intro a0 a1 a2 a3 a4 a5 a6 a7 a8 a9 a10 a11 k
 obtain ⟨ih0, ih1⟩ := busbarref5_Right.mono_l k
 unfold busbarref5_Right.f
 repeat' first
   | (with_reducible exact ih0 _ _ _ _ _ _ _ _ _ _ _ _ _)
   | (with_reducible exact ih1 _ _ _ _ _ _ _ _ _ _ _ _ _ _ _ _)
   | (with_reducible exact busbarref1_Most.mono _ _)
   | (with_reducible exact busbarref5_plain.mono _ _ _ _ _ _ _ _ _ _ _ _ _)
   | (with_reducible exact LeO.refl _)
   | (with_reducible exact LeO.none _)
   | (with_reducible refine LeO.ite ?_ ?_)
   | (with_reducible refine LeO.bind ?_ (fun _ => ?_))
   | exact ih0 _ _ _ _ _ _ _ _ _ _ _ _ _
   | exact ih1 _ _ _ _ _ _ _ _ _ _ _ _ _ _ _ _
   | exact busbarref1_Most.mono _ _
   | exact busbarref5_plain.mono _ _ _ _ _ _ _ _ _ _ _ _ _
   | exact LeO.none _
   | refine LeO.ite ?_ ?_
   | refine LeO.bind ?_ (fun _ => ?_)
set_option maxHeartbeats 8000000 in
set_option maxRecDepth 100000 in
theorem busbarref5_Right.calls (k : Nat) (a0_0 : Int) (a0_1 : Int) (a0_2 : Int) (a0_3 : Int) (a0_4 : Int) (a0_5 : Int) (A0_6 : Option Addr) (c0_6 : Nat) (l0_6 : List Bool) (A0_7 : Option Addr) (c0_7 : Nat) (l0_7 : List Int) (a0_8 : Int) (a0_9 : Int) (a0_10 : Int) (a0_11 : Int) (r : Bool) (w : World) (hr0_6 : Kd.C Kd.bool w A0_6 l0_6.length l0_6) (hc0_6 : l0_6.length ≤ c0_6) (hr0_7 : Kd.C (Kd.int .u16) w A0_7 l0_7.length l0_7) (hc0_7 : l0_7.length ≤ c0_7) (h : busbarref5_Right.f k a0_0 a0_1 a0_2 a0_3 a0_4 a0_5 l0_6 l0_7 a0_8 a0_9 a0_10 a0_11 = some r) :
  Calls Try.prog 45 #[.agg #[.int .i64 a0_0, .int .i64 a0_1, .int .i64 a0_2, .int .u16 a0_3, .int .u16 a0_4, .int .u16 a0_5, .slice A0_6 l0_6.length c0_6, .slice A0_7 l0_7.length c0_7, .int .i64 a0_8, .int .i64 a0_9, .int .i64 a0_10, .int .i64 a0_11]] w fun e w' => e = .returned (.bool r) ∧ Below w.heap.size w w' := by
 have hu49 := Try.underlying49
 have HR0_6 := Aside0.mk hr0_6
 have HC0_6 := Aside0.mk hc0_6
 clear hr0_6 hc0_6
 have HR0_7 := Aside0.mk hr0_7
 have HC0_7 := Aside0.mk hc0_7
 clear hr0_7 hc0_7
 have HB := Aside0.mk (Below.refl w.heap.size w)
 have H : ((busbarref1_Known.f a0_0).bind fun t226 => (if t226 = true then ((busbarref5_plain.f k a0_0 a0_1 a0_2 a0_3 a0_4 a0_5 l0_6 l0_7 a0_8 a0_9 a0_10 a0_11).bind fun t227 => (if t227 = true then ((busbarref5_place.f a0_1).bind fun t228 => (if t228 = true then ((busbarref5_place.f a0_8).bind fun t229 => (busbarref5_Right.j0 k (!t229) a0_0 a0_1 a0_2 a0_3 a0_4 a0_5 l0_6 l0_7 a0_8 a0_9 a0_10 a0_11)) else (busbarref5_Right.j0 k true a0_0 a0_1 a0_2 a0_3 a0_4 a0_5 l0_6 l0_7 a0_8 a0_9 a0_10 a0_11))) else (busbarref5_Right.j0 k true a0_0 a0_1 a0_2 a0_3 a0_4 a0_5 l0_6 l0_7 a0_8 a0_9 a0_10 a0_11))) else (busbarref5_Right.j0 k true a0_0 a0_1 a0_2 a0_3 a0_4 a0_5 l0_6 l0_7 a0_8 a0_9 a0_10 a0_11))) = some r := h
 clear h
 have HC2 := Aside0.mk H
 clear H
 go_enter Try.func45, Try.ntmps45
 go_upto_region 1 with (first | ((with_reducible refine gate_dst (N := 1) rfl ?_); (try (refine gate_guard (by rfl) ?_; dsimp only)); refine box_event ?hg (N := 1) ?hd (cs := #[.int .i64 a0_0, .int .i64 a0_1, .int .i64 a0_2, .int .u16 a0_3, .int .u16 a0_4, .int .u16 a0_5, .slice A0_6 l0_6.length c0_6, .slice A0_7 l0_7.length c0_7, .int .i64 a0_8, .int .i64 a0_9, .int .i64 a0_10, .int .i64 a0_11]) (t := 49) ?hr ?_; (case hd => rfl); (case hg => rfl); (case hr => first | (go_simp; done) | (go_simp; rfl)); intro gb225 hg w3 hbox hb; have BK225 := Aside0.mk (hbox); have GW225 := Aside0.mk ((by rw [hg]; exact (below_size (HB.out)) : w.heap.size ≤ gb225)); have GE225 := Aside0.mk ((by rw [hg]; exact (below_size (HB.out)) : w.heap.size ≤ gb225)); replace HB := Aside0.mk (below_step (HB.out) hb); clear hb hbox hg))
 (try simp only [Act.put, List.setIfInBounds_toArray, List.set_cons_zero, List.set_cons_succ])
 go_cut [25] (fun v25 wc => ∃ (kq : Nat) (x25_1 : Bool), v25 = .bool x25_1 ∧ Aside0 (busbarref5_Right.j0 kq x25_1 a0_0 a0_1 a0_2 a0_3 a0_4 a0_5 l0_6 l0_7 a0_8 a0_9 a0_10 a0_11 = some r) ∧ Aside0 (kq ≤ k) ∧ Aside0 (wc.heap[gb225]? = some (.cells #[.int .i64 a0_0, .int .i64 a0_1, .int .i64 a0_2, .int .u16 a0_3, .int .u16 a0_4, .int .u16 a0_5, (.slice A0_6 l0_6.length c0_6), (.slice A0_7 l0_7.length c0_7), .int .i64 a0_8, .int .i64 a0_9, .int .i64 a0_10, .int .i64 a0_11] 49 (0, 0))) ∧ Aside0 (Below w.heap.size w wc))
 case first =>
  have H := HC2.out
  clear HC2
  replace H := Option.bind_eq_some_iff.mp H
  obtain ⟨t226, A40, H⟩ := H
  have A4 := Aside0.mk A40
  clear A40
  by_cases c5 : t226 = true
  ·
   subst c5
   have H1 : ((busbarref5_plain.f k a0_0 a0_1 a0_2 a0_3 a0_4 a0_5 l0_6 l0_7 a0_8 a0_9 a0_10 a0_11).bind fun t227 => (if t227 = true then ((busbarref5_place.f a0_1).bind fun t228 => (if t228 = true then ((busbarref5_place.f a0_8).bind fun t229 => (busbarref5_Right.j0 k (!t229) a0_0 a0_1 a0_2 a0_3 a0_4 a0_5 l0_6 l0_7 a0_8 a0_9 a0_10 a0_11)) else (busbarref5_Right.j0 k true a0_0 a0_1 a0_2 a0_3 a0_4 a0_5 l0_6 l0_7 a0_8 a0_9 a0_10 a0_11))) else (busbarref5_Right.j0 k true a0_0 a0_1 a0_2 a0_3 a0_4 a0_5 l0_6 l0_7 a0_8 a0_9 a0_10 a0_11))) = some r := by rw [if_pos rfl] at H; exact H
   clear H
   have H := H1
   clear H1
   replace H := Option.bind_eq_some_iff.mp H
   obtain ⟨t227, A60, H⟩ := H
   have A6 := Aside0.mk A60
   clear A60
   by_cases c7 : t227 = true
   ·
    subst c7
    have H1 : ((busbarref5_place.f a0_1).bind fun t228 => (if t228 = true then ((busbarref5_place.f a0_8).bind fun t229 => (busbarref5_Right.j0 k (!t229) a0_0 a0_1 a0_2 a0_3 a0_4 a0_5 l0_6 l0_7 a0_8 a0_9 a0_10 a0_11)) else (busbarref5_Right.j0 k true a0_0 a0_1 a0_2 a0_3 a0_4 a0_5 l0_6 l0_7 a0_8 a0_9 a0_10 a0_11))) = some r := by rw [if_pos rfl] at H; exact H
    clear H
    have H := H1
    clear H1
    replace H := Option.bind_eq_some_iff.mp H
    obtain ⟨t228, A80, H⟩ := H
    have A8 := Aside0.mk A80
    clear A80
    by_cases c9 : t228 = true
    ·
     subst c9
     have H1 : ((busbarref5_place.f a0_8).bind fun t229 => (busbarref5_Right.j0 k (!t229) a0_0 a0_1 a0_2 a0_3 a0_4 a0_5 l0_6 l0_7 a0_8 a0_9 a0_10 a0_11)) = some r := by rw [if_pos rfl] at H; exact H
     clear H
     have H := H1
     clear H1
     replace H := Option.bind_eq_some_iff.mp H
     obtain ⟨t229, A100, H⟩ := H
     have A10 := Aside0.mk A100
     clear A100
     have H' := Aside0.mk H
     clear H
     obtain ⟨hcz11_0, hcz11_1, hcz11_2, hcz11_3, hcz11_4, hcz11_5, hcz11_6, hcz11_7, hcz11_8, hcz11_9, hcz11_10, hcz11_11⟩ := blkc12 BK225.out
     obtain ⟨hfz11_0, hfz11_1, hfz11_2, hfz11_3, hfz11_4, hfz11_5, hfz11_6, hfz11_7, hfz11_8, hfz11_9, hfz11_10, hfz11_11⟩ := blkf12 BK225.out
     go_wp2_with (first | ((with_reducible refine gate_callee (f := 58) rfl ?_); refine goesL_ (some 7) rfl rfl Try.func58 (by kernel_rfl) rfl #[.int .i64 a0_0] rfl (by (try simp only [List.map_toArray, List.map_cons, List.map_nil]); first | done | rfl | (simp only [List.length_drop, List.length_take]; rfl)) ?_; (with_reducible refine (busbarref1_Known.calls a0_0 true _ A4.out).mono ?_); rintro e w' ⟨rfl, ⟨nd, rfl⟩⟩; refine ⟨_, rfl, ?_⟩) | (go_at_call 59; (with_reducible refine (busbarref5_plain.calls k a0_0 a0_1 a0_2 a0_3 a0_4 a0_5 _ _ l0_6 _ _ l0_7 a0_8 a0_9 a0_10 a0_11 true _ ?side1 ?side2 ?side3 ?side4 A6.out).mono ?_); (case side1 => repeat (first | exact (Kd.C_below HR0_6.out (by repeat (first | (with_reducible first | exact HB.out | apply below_alloc | apply pw_below_drewN | apply below_drew1 | refine below_set ?_ GE225.out) | exact HB.out))) | (with_reducible refine Kd.C_alloc ?_ _) | (with_reducible refine Kd.C_drewN ?_ _) | (with_reducible refine Kd.C_drew ?_))); (case side2 => exact HC0_6.out); (case side3 => repeat (first | exact (Kd.C_below HR0_7.out (by repeat (first | (with_reducible first | exact HB.out | apply below_alloc | apply pw_below_drewN | apply below_drew1 | refine below_set ?_ GE225.out) | exact HB.out))) | (with_reducible refine Kd.C_alloc ?_ _) | (with_reducible refine Kd.C_drewN ?_ _) | (with_reducible refine Kd.C_drew ?_))); (case side4 => exact HC0_7.out); rintro e w12 ⟨rfl, hb⟩; replace BK225 := Aside0.mk (blk_below (g := gb225) (o := .cells #[.int .i64 a0_0, .int .i64 a0_1, .int .i64 a0_2, .int .u16 a0_3, .int .u16 a0_4, .int .u16 a0_5, .slice A0_6 l0_6.length c0_6, .slice A0_7 l0_7.length c0_7, .int .i64 a0_8, .int .i64 a0_9, .int .i64 a0_10, .int .i64 a0_11] 49 (0, 0)) (by (with_reducible repeat (first | refine blk_drewN ?_ _ | refine blk_drew ?_ | refine blk_alloc ?_ _)); exact BK225.out) hb); replace HB := Aside0.mk (below_step (by repeat (first | (with_reducible first | exact HB.out | apply below_alloc | apply pw_below_drewN | apply below_drew1 | refine below_set ?_ GE225.out) | exact HB.out)) hb); (try clear hb); obtain ⟨hcz13_0, hcz13_1, hcz13_2, hcz13_3, hcz13_4, hcz13_5, hcz13_6, hcz13_7, hcz13_8, hcz13_9, hcz13_10, hcz13_11⟩ := blkc12 BK225.out; obtain ⟨hfz13_0, hfz13_1, hfz13_2, hfz13_3, hfz13_4, hfz13_5, hfz13_6, hfz13_7, hfz13_8, hfz13_9, hfz13_10, hfz13_11⟩ := blkf12 BK225.out) | (go_at_call 60; (with_reducible refine (busbarref5_place.calls a0_1 true _ A8.out).mono ?_); rintro e w' ⟨rfl, ⟨nd, rfl⟩⟩) | (go_at_call 60; (with_reducible refine (busbarref5_place.calls a0_8 t229 _ A10.out).mono ?_); rintro e w' ⟨rfl, ⟨nd, rfl⟩⟩))
     go_meet
     case rel => exact ⟨_, (!t229), (by first | rfl | (simp; done) | (simp [*]; done)), H', ⟨by first | omega | exact Nat.le_refl _⟩, ⟨by (with_reducible repeat (first | refine blk_drewN ?_ _ | refine blk_drew ?_ | refine blk_alloc ?_ _)); exact BK225.out⟩, ⟨by repeat (first | (with_reducible first | exact HB.out | apply below_alloc | apply pw_below_drewN | apply below_drew1 | refine below_set ?_ GE225.out) | exact HB.out)⟩⟩
    ·
     replace c9 := Bool.eq_false_iff.mpr c9
     subst c9
     have H1 : (busbarref5_Right.j0 k true a0_0 a0_1 a0_2 a0_3 a0_4 a0_5 l0_6 l0_7 a0_8 a0_9 a0_10 a0_11) = some r := by rw [if_neg (show ¬ (false = true) by decide)] at H; exact H
     clear H
     have H := H1
     clear H1
     have H' := Aside0.mk H
     clear H
     obtain ⟨hcz14_0, hcz14_1, hcz14_2, hcz14_3, hcz14_4, hcz14_5, hcz14_6, hcz14_7, hcz14_8, hcz14_9, hcz14_10, hcz14_11⟩ := blkc12 BK225.out
     obtain ⟨hfz14_0, hfz14_1, hfz14_2, hfz14_3, hfz14_4, hfz14_5, hfz14_6, hfz14_7, hfz14_8, hfz14_9, hfz14_10, hfz14_11⟩ := blkf12 BK225.out
     go_wp2_with (first | ((with_reducible refine gate_callee (f := 58) rfl ?_); refine goesL_ (some 7) rfl rfl Try.func58 (by kernel_rfl) rfl #[.int .i64 a0_0] rfl (by (try simp only [List.map_toArray, List.map_cons, List.map_nil]); first | done | rfl | (simp only [List.length_drop, List.length_take]; rfl)) ?_; (with_reducible refine (busbarref1_Known.calls a0_0 true _ A4.out).mono ?_); rintro e w' ⟨rfl, ⟨nd, rfl⟩⟩; refine ⟨_, rfl, ?_⟩) | (go_at_call 59; (with_reducible refine (busbarref5_plain.calls k a0_0 a0_1 a0_2 a0_3 a0_4 a0_5 _ _ l0_6 _ _ l0_7 a0_8 a0_9 a0_10 a0_11 true _ ?side1 ?side2 ?side3 ?side4 A6.out).mono ?_); (case side1 => repeat (first | exact (Kd.C_below HR0_6.out (by repeat (first | (with_reducible first | exact HB.out | apply below_alloc | apply pw_below_drewN | apply below_drew1 | refine below_set ?_ GE225.out) | exact HB.out))) | (with_reducible refine Kd.C_alloc ?_ _) | (with_reducible refine Kd.C_drewN ?_ _) | (with_reducible refine Kd.C_drew ?_))); (case side2 => exact HC0_6.out); (case side3 => repeat (first | exact (Kd.C_below HR0_7.out (by repeat (first | (with_reducible first | exact HB.out | apply below_alloc | apply pw_below_drewN | apply below_drew1 | refine below_set ?_ GE225.out) | exact HB.out))) | (with_reducible refine Kd.C_alloc ?_ _) | (with_reducible refine Kd.C_drewN ?_ _) | (with_reducible refine Kd.C_drew ?_))); (case side4 => exact HC0_7.out); rintro e w15 ⟨rfl, hb⟩; replace BK225 := Aside0.mk (blk_below (g := gb225) (o := .cells #[.int .i64 a0_0, .int .i64 a0_1, .int .i64 a0_2, .int .u16 a0_3, .int .u16 a0_4, .int .u16 a0_5, .slice A0_6 l0_6.length c0_6, .slice A0_7 l0_7.length c0_7, .int .i64 a0_8, .int .i64 a0_9, .int .i64 a0_10, .int .i64 a0_11] 49 (0, 0)) (by (with_reducible repeat (first | refine blk_drewN ?_ _ | refine blk_drew ?_ | refine blk_alloc ?_ _)); exact BK225.out) hb); replace HB := Aside0.mk (below_step (by repeat (first | (with_reducible first | exact HB.out | apply below_alloc | apply pw_below_drewN | apply below_drew1 | refine below_set ?_ GE225.out) | exact HB.out)) hb); (try clear hb); obtain ⟨hcz16_0, hcz16_1, hcz16_2, hcz16_3, hcz16_4, hcz16_5, hcz16_6, hcz16_7, hcz16_8, hcz16_9, hcz16_10, hcz16_11⟩ := blkc12 BK225.out; obtain ⟨hfz16_0, hfz16_1, hfz16_2, hfz16_3, hfz16_4, hfz16_5, hfz16_6, hfz16_7, hfz16_8, hfz16_9, hfz16_10, hfz16_11⟩ := blkf12 BK225.out) | (go_at_call 60; (with_reducible refine (busbarref5_place.calls a0_1 false _ A8.out).mono ?_); rintro e w' ⟨rfl, ⟨nd, rfl⟩⟩))
     go_meet
     case rel => exact ⟨_, (true), (by first | rfl | (simp; done) | (simp [*]; done)), H', ⟨by first | omega | exact Nat.le_refl _⟩, ⟨by (with_reducible repeat (first | refine blk_drewN ?_ _ | refine blk_drew ?_ | refine blk_alloc ?_ _)); exact BK225.out⟩, ⟨by repeat (first | (with_reducible first | exact HB.out | apply below_alloc | apply pw_below_drewN | apply below_drew1 | refine below_set ?_ GE225.out) | exact HB.out)⟩⟩
   ·
    replace c7 := Bool.eq_false_iff.mpr c7
    subst c7
    have H1 : (busbarref5_Right.j0 k true a0_0 a0_1 a0_2 a0_3 a0_4 a0_5 l0_6 l0_7 a0_8 a0_9 a0_10 a0_11) = some r := by rw [if_neg (show ¬ (false = true) by decide)] at H; exact H
    clear H
    have H := H1
    clear H1
    have H' := Aside0.mk H
    clear H
    obtain ⟨hcz17_0, hcz17_1, hcz17_2, hcz17_3, hcz17_4, hcz17_5, hcz17_6, hcz17_7, hcz17_8, hcz17_9, hcz17_10, hcz17_11⟩ := blkc12 BK225.out
    obtain ⟨hfz17_0, hfz17_1, hfz17_2, hfz17_3, hfz17_4, hfz17_5, hfz17_6, hfz17_7, hfz17_8, hfz17_9, hfz17_10, hfz17_11⟩ := blkf12 BK225.out
    go_wp2_with (first | ((with_reducible refine gate_callee (f := 58) rfl ?_); refine goesL_ (some 7) rfl rfl Try.func58 (by kernel_rfl) rfl #[.int .i64 a0_0] rfl (by (try simp only [List.map_toArray, List.map_cons, List.map_nil]); first | done | rfl | (simp only [List.length_drop, List.length_take]; rfl)) ?_; (with_reducible refine (busbarref1_Known.calls a0_0 true _ A4.out).mono ?_); rintro e w' ⟨rfl, ⟨nd, rfl⟩⟩; refine ⟨_, rfl, ?_⟩) | (go_at_call 59; (with_reducible refine (busbarref5_plain.calls k a0_0 a0_1 a0_2 a0_3 a0_4 a0_5 _ _ l0_6 _ _ l0_7 a0_8 a0_9 a0_10 a0_11 false _ ?side1 ?side2 ?side3 ?side4 A6.out).mono ?_); (case side1 => repeat (first | exact (Kd.C_below HR0_6.out (by repeat (first | (with_reducible first | exact HB.out | apply below_alloc | apply pw_below_drewN | apply below_drew1 | refine below_set ?_ GE225.out) | exact HB.out))) | (with_reducible refine Kd.C_alloc ?_ _) | (with_reducible refine Kd.C_drewN ?_ _) | (with_reducible refine Kd.C_drew ?_))); (case side2 => exact HC0_6.out); (case side3 => repeat (first | exact (Kd.C_below HR0_7.out (by repeat (first | (with_reducible first | exact HB.out | apply below_alloc | apply pw_below_drewN | apply below_drew1 | refine below_set ?_ GE225.out) | exact HB.out))) | (with_reducible refine Kd.C_alloc ?_ _) | (with_reducible refine Kd.C_drewN ?_ _) | (with_reducible refine Kd.C_drew ?_))); (case side4 => exact HC0_7.out); rintro e w18 ⟨rfl, hb⟩; replace BK225 := Aside0.mk (blk_below (g := gb225) (o := .cells #[.int .i64 a0_0, .int .i64 a0_1, .int .i64 a0_2, .int .u16 a0_3, .int .u16 a0_4, .int .u16 a0_5, .slice A0_6 l0_6.length c0_6, .slice A0_7 l0_7.length c0_7, .int .i64 a0_8, .int .i64 a0_9, .int .i64 a0_10, .int .i64 a0_11] 49 (0, 0)) (by (with_reducible repeat (first | refine blk_drewN ?_ _ | refine blk_drew ?_ | refine blk_alloc ?_ _)); exact BK225.out) hb); replace HB := Aside0.mk (below_step (by repeat (first | (with_reducible first | exact HB.out | apply below_alloc | apply pw_below_drewN | apply below_drew1 | refine below_set ?_ GE225.out) | exact HB.out)) hb); (try clear hb); (try clear hi)))
    go_meet
    case rel => exact ⟨_, (true), (by first | rfl | (simp; done) | (simp [*]; done)), H', ⟨by first | omega | exact Nat.le_refl _⟩, ⟨BK225.out⟩, ⟨HB.out⟩⟩
  ·
   replace c5 := Bool.eq_false_iff.mpr c5
   subst c5
   have H1 : (busbarref5_Right.j0 k true a0_0 a0_1 a0_2 a0_3 a0_4 a0_5 l0_6 l0_7 a0_8 a0_9 a0_10 a0_11) = some r := by rw [if_neg (show ¬ (false = true) by decide)] at H; exact H
   clear H
   have H := H1
   clear H1
   have H' := Aside0.mk H
   clear H
   obtain ⟨hcz19_0, hcz19_1, hcz19_2, hcz19_3, hcz19_4, hcz19_5, hcz19_6, hcz19_7, hcz19_8, hcz19_9, hcz19_10, hcz19_11⟩ := blkc12 BK225.out
   obtain ⟨hfz19_0, hfz19_1, hfz19_2, hfz19_3, hfz19_4, hfz19_5, hfz19_6, hfz19_7, hfz19_8, hfz19_9, hfz19_10, hfz19_11⟩ := blkf12 BK225.out
   go_wp2_with (first | ((with_reducible refine gate_callee (f := 58) rfl ?_); refine goesL_ (some 7) rfl rfl Try.func58 (by kernel_rfl) rfl #[.int .i64 a0_0] rfl (by (try simp only [List.map_toArray, List.map_cons, List.map_nil]); first | done | rfl | (simp only [List.length_drop, List.length_take]; rfl)) ?_; (with_reducible refine (busbarref1_Known.calls a0_0 false _ A4.out).mono ?_); rintro e w' ⟨rfl, ⟨nd, rfl⟩⟩; refine ⟨_, rfl, ?_⟩))
   go_meet
   case rel => exact ⟨_, (true), (by first | rfl | (simp; done) | (simp [*]; done)), H', ⟨by first | omega | exact Nat.le_refl _⟩, ⟨by (with_reducible repeat (first | refine blk_drewN ?_ _ | refine blk_drew ?_ | refine blk_alloc ?_ _)); exact BK225.out⟩, ⟨by repeat (first | (with_reducible first | exact HB.out | apply below_alloc | apply pw_below_drewN | apply below_drew1 | refine below_set ?_ GE225.out) | exact HB.out)⟩⟩
 case rest =>
  clear HC2
  obtain ⟨kq, x25_1, rfl, HA, HJ1, BK225, HB⟩ := hcut
  cases kq with
  | zero => exact absurd HA.out (by simp [busbarref5_Right.j0])
  | succ kj1 =>
   have H := HA.out
   clear HA
   simp only [busbarref5_Right.j0] at H
   by_cases c20 : x25_1 = true
   ·
    subst c20
    have H1 : (some false) = some r := by rw [if_pos rfl] at H; exact H
    clear H
    have H := H1
    clear H1
    obtain rfl := Option.some.inj H
    go_wp2
    go_ret
    exact ⟨by first | rfl | (simp [errW_none, errW_some] <;> rfl) | (simp [*, errW_none, errW_some] <;> rfl), HB.out⟩
   ·
    replace c20 := Bool.eq_false_iff.mpr c20
    subst c20
    have H1 : ((busbarref1_Most.f kj1 a0_0).bind fun bt230 => (if a0_0 = 1 then (busbarref5_Right.j1 kj1 bt230.1 bt230.2 a0_0 (a0_0 == 1) a0_0 a0_1 a0_2 a0_3 a0_4 a0_5 l0_6 l0_7 a0_8 a0_9 a0_10 a0_11) else (if a0_0 = 2 then (busbarref5_Right.j1 kj1 bt230.1 bt230.2 a0_0 (a0_0 == 2) a0_0 a0_1 a0_2 a0_3 a0_4 a0_5 l0_6 l0_7 a0_8 a0_9 a0_10 a0_11) else (if a0_0 = 3 then (busbarref5_Right.j1 kj1 bt230.1 bt230.2 a0_0 (a0_0 == 3) a0_0 a0_1 a0_2 a0_3 a0_4 a0_5 l0_6 l0_7 a0_8 a0_9 a0_10 a0_11) else (busbarref5_Right.j1 kj1 bt230.1 bt230.2 a0_0 (a0_0 == 4) a0_0 a0_1 a0_2 a0_3 a0_4 a0_5 l0_6 l0_7 a0_8 a0_9 a0_10 a0_11))))) = some r := by rw [if_neg (show ¬ (false = true) by decide)] at H; exact H
    clear H
    have H := H1
    clear H1
    replace H := Option.bind_eq_some_iff.mp H
    obtain ⟨⟨t230, t231⟩, A210, H⟩ := H
    replace H : (if a0_0 = 1 then (busbarref5_Right.j1 kj1 t230 t231 a0_0 (a0_0 == 1) a0_0 a0_1 a0_2 a0_3 a0_4 a0_5 l0_6 l0_7 a0_8 a0_9 a0_10 a0_11) else (if a0_0 = 2 then (busbarref5_Right.j1 kj1 t230 t231 a0_0 (a0_0 == 2) a0_0 a0_1 a0_2 a0_3 a0_4 a0_5 l0_6 l0_7 a0_8 a0_9 a0_10 a0_11) else (if a0_0 = 3 then (busbarref5_Right.j1 kj1 t230 t231 a0_0 (a0_0 == 3) a0_0 a0_1 a0_2 a0_3 a0_4 a0_5 l0_6 l0_7 a0_8 a0_9 a0_10 a0_11) else (busbarref5_Right.j1 kj1 t230 t231 a0_0 (a0_0 == 4) a0_0 a0_1 a0_2 a0_3 a0_4 a0_5 l0_6 l0_7 a0_8 a0_9 a0_10 a0_11)))) = some r := H
    have A21 := Aside0.mk A210
    clear A210
    have HC22 := Aside0.mk H
    clear H
    obtain ⟨hcz23_0, hcz23_1, hcz23_2, hcz23_3, hcz23_4, hcz23_5, hcz23_6, hcz23_7, hcz23_8, hcz23_9, hcz23_10, hcz23_11⟩ := blkc12 BK225.out
    obtain ⟨hfz23_0, hfz23_1, hfz23_2, hfz23_3, hfz23_4, hfz23_5, hfz23_6, hfz23_7, hfz23_8, hfz23_9, hfz23_10, hfz23_11⟩ := blkf12 BK225.out
    go_upto_if 34 with (first | ((with_reducible refine gate_callee (f := 61) rfl ?_); refine goesL_ (some 29) rfl rfl Try.func61 (by kernel_rfl) rfl #[.int .i64 a0_0] rfl (by (try simp only [List.map_toArray, List.map_cons, List.map_nil]); first | done | rfl | (simp only [List.length_drop, List.length_take]; rfl)) ?_; (with_reducible refine (busbarref1_Most.calls kj1 a0_0 t230 t231 _ A21.out).mono ?_); rintro e w' ⟨rfl, ⟨nd, rfl⟩⟩; refine ⟨_, rfl, ?_⟩))
    (try simp only [Act.put, List.setIfInBounds_toArray, List.set_cons_zero, List.set_cons_succ])
    go_cut [34] (fun v34 wc => ∃ (kq : Nat) (x34_21 : Bool), v34 = .bool x34_21 ∧ Aside0 (busbarref5_Right.j1 kq t230 t231 a0_0 x34_21 a0_0 a0_1 a0_2 a0_3 a0_4 a0_5 l0_6 l0_7 a0_8 a0_9 a0_10 a0_11 = some r) ∧ Aside0 (kq ≤ kj1) ∧ Aside0 (wc.heap[gb225]? = some (.cells #[.int .i64 a0_0, .int .i64 a0_1, .int .i64 a0_2, .int .u16 a0_3, .int .u16 a0_4, .int .u16 a0_5, (.slice A0_6 l0_6.length c0_6), (.slice A0_7 l0_7.length c0_7), .int .i64 a0_8, .int .i64 a0_9, .int .i64 a0_10, .int .i64 a0_11] 49 (0, 0))) ∧ Aside0 (Below w.heap.size w wc))
    case first =>
     have H := HC22.out
     clear HC22
     by_cases c24 : a0_0 = 1
     ·
      rw [if_pos c24] at H
      have c24b0 : (a0_0 == 1) = true := beq_iff_eq.mpr c24
      have c24b1 : (a0_0 != 1) = false := bne_eq_false_iff_eq.mpr c24
      clear c24
      (first | rw [c24b0] | (simp only [i64_w, i32_w]; rw [c24b0]) | skip)
      have H' := Aside0.mk H
      clear H
      go_wp2
      go_meet
      case rel => exact ⟨_, ((a0_0 == 1)), (by first | rfl | (simp; done) | (simp [*]; done)), H', ⟨by have := HJ1.out; first | omega | exact Nat.le_refl _⟩, ⟨by (with_reducible repeat (first | refine blk_drewN ?_ _ | refine blk_drew ?_ | refine blk_alloc ?_ _)); exact BK225.out⟩, ⟨by repeat (first | (with_reducible first | exact HB.out | apply below_alloc | apply pw_below_drewN | apply below_drew1 | refine below_set ?_ GE225.out) | exact HB.out)⟩⟩
     ·
      rw [if_neg c24] at H
      have c24b0 : (a0_0 == 1) = false := beq_eq_false_iff_ne.mpr c24
      have c24b1 : (a0_0 != 1) = true := bne_iff_ne.mpr c24
      (first | rw [c24b0] | (simp only [i64_w, i32_w]; rw [c24b0]) | skip)
      by_cases c25 : a0_0 = 2
      ·
       rw [if_pos c25] at H
       have c25b0 : (a0_0 == 2) = true := beq_iff_eq.mpr c25
       have c25b1 : (a0_0 != 2) = false := bne_eq_false_iff_eq.mpr c25
       clear c25
       have H' := Aside0.mk H
       clear H
       go_wp2
       go_meet
       case rel => exact ⟨_, ((a0_0 == 2)), (by first | rfl | (simp; done) | (simp [*]; done)), H', ⟨by have := HJ1.out; first | omega | exact Nat.le_refl _⟩, ⟨by (with_reducible repeat (first | refine blk_drewN ?_ _ | refine blk_drew ?_ | refine blk_alloc ?_ _)); exact BK225.out⟩, ⟨by repeat (first | (with_reducible first | exact HB.out | apply below_alloc | apply pw_below_drewN | apply below_drew1 | refine below_set ?_ GE225.out) | exact HB.out)⟩⟩
      ·
       rw [if_neg c25] at H
       have c25b0 : (a0_0 == 2) = false := beq_eq_false_iff_ne.mpr c25
       have c25b1 : (a0_0 != 2) = true := bne_iff_ne.mpr c25
       by_cases c26 : a0_0 = 3
       ·
        rw [if_pos c26] at H
        have c26b0 : (a0_0 == 3) = true := beq_iff_eq.mpr c26
        have c26b1 : (a0_0 != 3) = false := bne_eq_false_iff_eq.mpr c26
        clear c26
        have H' := Aside0.mk H
        clear H
        go_wp2
        go_meet
        case rel => exact ⟨_, ((a0_0 == 3)), (by first | rfl | (simp; done) | (simp [*]; done)), H', ⟨by have := HJ1.out; first | omega | exact Nat.le_refl _⟩, ⟨by (with_reducible repeat (first | refine blk_drewN ?_ _ | refine blk_drew ?_ | refine blk_alloc ?_ _)); exact BK225.out⟩, ⟨by repeat (first | (with_reducible first | exact HB.out | apply below_alloc | apply pw_below_drewN | apply below_drew1 | refine below_set ?_ GE225.out) | exact HB.out)⟩⟩
       ·
        rw [if_neg c26] at H
        have c26b0 : (a0_0 == 3) = false := beq_eq_false_iff_ne.mpr c26
        have c26b1 : (a0_0 != 3) = true := bne_iff_ne.mpr c26
        have H' := Aside0.mk H
        clear H
        go_wp2
        go_meet
        case rel => exact ⟨_, ((a0_0 == 4)), (by first | rfl | (simp; done) | (simp [*]; done)), H', ⟨by have := HJ1.out; first | omega | exact Nat.le_refl _⟩, ⟨by (with_reducible repeat (first | refine blk_drewN ?_ _ | refine blk_drew ?_ | refine blk_alloc ?_ _)); exact BK225.out⟩, ⟨by repeat (first | (with_reducible first | exact HB.out | apply below_alloc | apply pw_below_drewN | apply below_drew1 | refine below_set ?_ GE225.out) | exact HB.out)⟩⟩
    case rest =>
     clear HC22
     (try clear hcz23_0); (try clear hcz23_1); (try clear hcz23_10); (try clear hcz23_11); (try clear hcz23_2); (try clear hcz23_3); (try clear hcz23_4); (try clear hcz23_5); (try clear hcz23_6); (try clear hcz23_7); (try clear hcz23_8); (try clear hcz23_9); (try clear hfz23_0); (try clear hfz23_1); (try clear hfz23_10); (try clear hfz23_11); (try clear hfz23_2); (try clear hfz23_3); (try clear hfz23_4); (try clear hfz23_5); (try clear hfz23_6); (try clear hfz23_7); (try clear hfz23_8); (try clear hfz23_9)
     obtain ⟨kq, x34_21, rfl, HA, HJ21, BK225, HB⟩ := hcut
     cases kq with
     | zero => exact absurd HA.out (by simp [busbarref5_Right.j1])
     | succ kj21 =>
      have H := HA.out
      clear HA
      simp only [busbarref5_Right.j1] at H
      by_cases c27 : x34_21 = true
      ·
       subst c27
       have H1 : (if a0_2 ≥ 1 then (some (decide (a0_2 ≤ t230))) else (some false)) = some r := by rw [if_pos rfl] at H; exact H
       clear H
       have H := H1
       clear H1
       by_cases c28 : a0_2 ≥ 1
       ·
        rw [if_pos c28] at H
        have c28b0 : decide (1 ≤ a0_2) = true := decide_eq_true c28
        clear c28
        obtain rfl := Option.some.inj H
        obtain ⟨hcz29_0, hcz29_1, hcz29_2, hcz29_3, hcz29_4, hcz29_5, hcz29_6, hcz29_7, hcz29_8, hcz29_9, hcz29_10, hcz29_11⟩ := blkc12 BK225.out
        obtain ⟨hfz29_0, hfz29_1, hfz29_2, hfz29_3, hfz29_4, hfz29_5, hfz29_6, hfz29_7, hfz29_8, hfz29_9, hfz29_10, hfz29_11⟩ := blkf12 BK225.out
        go_wp2
        go_ret
        exact ⟨by first | rfl | (simp [errW_none, errW_some] <;> rfl) | (simp [*, errW_none, errW_some] <;> rfl), HB.out⟩
       ·
        rw [if_neg c28] at H
        have c28b0 : decide (1 ≤ a0_2) = false := decide_eq_false c28
        clear c28
        obtain rfl := Option.some.inj H
        obtain ⟨hcz30_0, hcz30_1, hcz30_2, hcz30_3, hcz30_4, hcz30_5, hcz30_6, hcz30_7, hcz30_8, hcz30_9, hcz30_10, hcz30_11⟩ := blkc12 BK225.out
        obtain ⟨hfz30_0, hfz30_1, hfz30_2, hfz30_3, hfz30_4, hfz30_5, hfz30_6, hfz30_7, hfz30_8, hfz30_9, hfz30_10, hfz30_11⟩ := blkf12 BK225.out
        go_wp2
        go_ret
        exact ⟨by first | rfl | (simp [errW_none, errW_some] <;> rfl) | (simp [*, errW_none, errW_some] <;> rfl), HB.out⟩
      ·
       replace c27 := Bool.eq_false_iff.mpr c27
       subst c27
       have H1 : (if a0_0 = 5 then (some (decide (a0_3 ≤ 1))) else (if a0_0 = 15 then (if a0_2 ≥ 1 then (if a0_2 ≤ t231 then (some ((l0_6.length : Int) == a0_2)) else (some false)) else (some false)) else (if a0_0 = 16 then (if a0_2 ≥ 1 then (if a0_2 ≤ t231 then (some ((l0_7.length : Int) == a0_2)) else (some false)) else (some false)) else (if a0_0 = 23 then (if a0_2 ≥ 1 then (if a0_2 ≤ t231 then (if (l0_7.length : Int) = a0_2 then (if a0_9 ≥ 1 then (some (decide (a0_9 ≤ t230))) else (some false)) else (some false)) else (some false)) else (some false)) else (if a0_0 = 43 then (if a0_10 ≥ 1 then (if a0_10 ≤ 4 then ((busbarref5_byteful.f a0_11).bind fun t232 => (some t232)) else (some false)) else (some false)) else (some true)))))) = some r := by rw [if_neg (show ¬ (false = true) by decide)] at H; exact H
       clear H
       have H := H1
       clear H1
       by_cases c31 : a0_0 = 5
       ·
        rw [if_pos c31] at H
        have c31b0 : (a0_0 == 5) = true := beq_iff_eq.mpr c31
        have c31b1 : (a0_0 != 5) = false := bne_eq_false_iff_eq.mpr c31
        clear c31
        obtain rfl := Option.some.inj H
        obtain ⟨hcz32_0, hcz32_1, hcz32_2, hcz32_3, hcz32_4, hcz32_5, hcz32_6, hcz32_7, hcz32_8, hcz32_9, hcz32_10, hcz32_11⟩ := blkc12 BK225.out
        obtain ⟨hfz32_0, hfz32_1, hfz32_2, hfz32_3, hfz32_4, hfz32_5, hfz32_6, hfz32_7, hfz32_8, hfz32_9, hfz32_10, hfz32_11⟩ := blkf12 BK225.out
        go_wp2
        go_ret
        exact ⟨by first | rfl | (simp [errW_none, errW_some] <;> rfl) | (simp [*, errW_none, errW_some] <;> rfl), HB.out⟩
       ·
        rw [if_neg c31] at H
        have c31b0 : (a0_0 == 5) = false := beq_eq_false_iff_ne.mpr c31
        have c31b1 : (a0_0 != 5) = true := bne_iff_ne.mpr c31
        by_cases c33 : a0_0 = 15
        ·
         rw [if_pos c33] at H
         have c33b0 : (a0_0 == 15) = true := beq_iff_eq.mpr c33
         have c33b1 : (a0_0 != 15) = false := bne_eq_false_iff_eq.mpr c33
         clear c33
         by_cases c34 : a0_2 ≥ 1
         ·
          rw [if_pos c34] at H
          have c34b0 : decide (1 ≤ a0_2) = true := decide_eq_true c34
          clear c34
          by_cases c35 : a0_2 ≤ t231
          ·
           rw [if_pos c35] at H
           have c35b0 : decide (a0_2 ≤ t231) = true := decide_eq_true c35
           clear c35
           obtain rfl := Option.some.inj H
           obtain ⟨hcz36_0, hcz36_1, hcz36_2, hcz36_3, hcz36_4, hcz36_5, hcz36_6, hcz36_7, hcz36_8, hcz36_9, hcz36_10, hcz36_11⟩ := blkc12 BK225.out
           obtain ⟨hfz36_0, hfz36_1, hfz36_2, hfz36_3, hfz36_4, hfz36_5, hfz36_6, hfz36_7, hfz36_8, hfz36_9, hfz36_10, hfz36_11⟩ := blkf12 BK225.out
           go_wp2
           go_ret
           exact ⟨by first | rfl | (simp [errW_none, errW_some] <;> rfl) | (simp [*, errW_none, errW_some] <;> rfl), HB.out⟩
          ·
           rw [if_neg c35] at H
           have c35b0 : decide (a0_2 ≤ t231) = false := decide_eq_false c35
           clear c35
           obtain rfl := Option.some.inj H
           obtain ⟨hcz37_0, hcz37_1, hcz37_2, hcz37_3, hcz37_4, hcz37_5, hcz37_6, hcz37_7, hcz37_8, hcz37_9, hcz37_10, hcz37_11⟩ := blkc12 BK225.out
           obtain ⟨hfz37_0, hfz37_1, hfz37_2, hfz37_3, hfz37_4, hfz37_5, hfz37_6, hfz37_7, hfz37_8, hfz37_9, hfz37_10, hfz37_11⟩ := blkf12 BK225.out
           go_wp2
           go_ret
           exact ⟨by first | rfl | (simp [errW_none, errW_some] <;> rfl) | (simp [*, errW_none, errW_some] <;> rfl), HB.out⟩
         ·
          rw [if_neg c34] at H
          have c34b0 : decide (1 ≤ a0_2) = false := decide_eq_false c34
          clear c34
          obtain rfl := Option.some.inj H
          obtain ⟨hcz38_0, hcz38_1, hcz38_2, hcz38_3, hcz38_4, hcz38_5, hcz38_6, hcz38_7, hcz38_8, hcz38_9, hcz38_10, hcz38_11⟩ := blkc12 BK225.out
          obtain ⟨hfz38_0, hfz38_1, hfz38_2, hfz38_3, hfz38_4, hfz38_5, hfz38_6, hfz38_7, hfz38_8, hfz38_9, hfz38_10, hfz38_11⟩ := blkf12 BK225.out
          go_wp2
          go_ret
          exact ⟨by first | rfl | (simp [errW_none, errW_some] <;> rfl) | (simp [*, errW_none, errW_some] <;> rfl), HB.out⟩
        ·
         rw [if_neg c33] at H
         have c33b0 : (a0_0 == 15) = false := beq_eq_false_iff_ne.mpr c33
         have c33b1 : (a0_0 != 15) = true := bne_iff_ne.mpr c33
         by_cases c39 : a0_0 = 16
         ·
          rw [if_pos c39] at H
          have c39b0 : (a0_0 == 16) = true := beq_iff_eq.mpr c39
          have c39b1 : (a0_0 != 16) = false := bne_eq_false_iff_eq.mpr c39
          clear c39
          by_cases c40 : a0_2 ≥ 1
          ·
           rw [if_pos c40] at H
           have c40b0 : decide (1 ≤ a0_2) = true := decide_eq_true c40
           clear c40
           by_cases c41 : a0_2 ≤ t231
           ·
            rw [if_pos c41] at H
            have c41b0 : decide (a0_2 ≤ t231) = true := decide_eq_true c41
            clear c41
            obtain rfl := Option.some.inj H
            obtain ⟨hcz42_0, hcz42_1, hcz42_2, hcz42_3, hcz42_4, hcz42_5, hcz42_6, hcz42_7, hcz42_8, hcz42_9, hcz42_10, hcz42_11⟩ := blkc12 BK225.out
            obtain ⟨hfz42_0, hfz42_1, hfz42_2, hfz42_3, hfz42_4, hfz42_5, hfz42_6, hfz42_7, hfz42_8, hfz42_9, hfz42_10, hfz42_11⟩ := blkf12 BK225.out
            go_wp2
            go_ret
            exact ⟨by first | rfl | (simp [errW_none, errW_some] <;> rfl) | (simp [*, errW_none, errW_some] <;> rfl), HB.out⟩
           ·
            rw [if_neg c41] at H
            have c41b0 : decide (a0_2 ≤ t231) = false := decide_eq_false c41
            clear c41
            obtain rfl := Option.some.inj H
            obtain ⟨hcz43_0, hcz43_1, hcz43_2, hcz43_3, hcz43_4, hcz43_5, hcz43_6, hcz43_7, hcz43_8, hcz43_9, hcz43_10, hcz43_11⟩ := blkc12 BK225.out
            obtain ⟨hfz43_0, hfz43_1, hfz43_2, hfz43_3, hfz43_4, hfz43_5, hfz43_6, hfz43_7, hfz43_8, hfz43_9, hfz43_10, hfz43_11⟩ := blkf12 BK225.out
            go_wp2
            go_ret
            exact ⟨by first | rfl | (simp [errW_none, errW_some] <;> rfl) | (simp [*, errW_none, errW_some] <;> rfl), HB.out⟩
          ·
           rw [if_neg c40] at H
           have c40b0 : decide (1 ≤ a0_2) = false := decide_eq_false c40
           clear c40
           obtain rfl := Option.some.inj H
           obtain ⟨hcz44_0, hcz44_1, hcz44_2, hcz44_3, hcz44_4, hcz44_5, hcz44_6, hcz44_7, hcz44_8, hcz44_9, hcz44_10, hcz44_11⟩ := blkc12 BK225.out
           obtain ⟨hfz44_0, hfz44_1, hfz44_2, hfz44_3, hfz44_4, hfz44_5, hfz44_6, hfz44_7, hfz44_8, hfz44_9, hfz44_10, hfz44_11⟩ := blkf12 BK225.out
           go_wp2
           go_ret
           exact ⟨by first | rfl | (simp [errW_none, errW_some] <;> rfl) | (simp [*, errW_none, errW_some] <;> rfl), HB.out⟩
         ·
          rw [if_neg c39] at H
          have c39b0 : (a0_0 == 16) = false := beq_eq_false_iff_ne.mpr c39
          have c39b1 : (a0_0 != 16) = true := bne_iff_ne.mpr c39
          by_cases c45 : a0_0 = 23
          ·
           rw [if_pos c45] at H
           have c45b0 : (a0_0 == 23) = true := beq_iff_eq.mpr c45
           have c45b1 : (a0_0 != 23) = false := bne_eq_false_iff_eq.mpr c45
           clear c45
           by_cases c46 : a0_2 ≥ 1
           ·
            rw [if_pos c46] at H
            have c46b0 : decide (1 ≤ a0_2) = true := decide_eq_true c46
            clear c46
            by_cases c47 : a0_2 ≤ t231
            ·
             rw [if_pos c47] at H
             have c47b0 : decide (a0_2 ≤ t231) = true := decide_eq_true c47
             clear c47
             by_cases c48 : (l0_7.length : Int) = a0_2
             ·
              rw [if_pos c48] at H
              have c48b0 : ((l0_7.length : Int) == a0_2) = true := beq_iff_eq.mpr c48
              have c48b1 : ((l0_7.length : Int) != a0_2) = false := bne_eq_false_iff_eq.mpr c48
              clear c48
              by_cases c49 : a0_9 ≥ 1
              ·
               rw [if_pos c49] at H
               have c49b0 : decide (1 ≤ a0_9) = true := decide_eq_true c49
               clear c49
               obtain rfl := Option.some.inj H
               obtain ⟨hcz50_0, hcz50_1, hcz50_2, hcz50_3, hcz50_4, hcz50_5, hcz50_6, hcz50_7, hcz50_8, hcz50_9, hcz50_10, hcz50_11⟩ := blkc12 BK225.out
               obtain ⟨hfz50_0, hfz50_1, hfz50_2, hfz50_3, hfz50_4, hfz50_5, hfz50_6, hfz50_7, hfz50_8, hfz50_9, hfz50_10, hfz50_11⟩ := blkf12 BK225.out
               go_wp2
               go_ret
               exact ⟨by first | rfl | (simp [errW_none, errW_some] <;> rfl) | (simp [*, errW_none, errW_some] <;> rfl), HB.out⟩
              ·
               rw [if_neg c49] at H
               have c49b0 : decide (1 ≤ a0_9) = false := decide_eq_false c49
               clear c49
               obtain rfl := Option.some.inj H
               obtain ⟨hcz51_0, hcz51_1, hcz51_2, hcz51_3, hcz51_4, hcz51_5, hcz51_6, hcz51_7, hcz51_8, hcz51_9, hcz51_10, hcz51_11⟩ := blkc12 BK225.out
               obtain ⟨hfz51_0, hfz51_1, hfz51_2, hfz51_3, hfz51_4, hfz51_5, hfz51_6, hfz51_7, hfz51_8, hfz51_9, hfz51_10, hfz51_11⟩ := blkf12 BK225.out
               go_wp2
               go_ret
               exact ⟨by first | rfl | (simp [errW_none, errW_some] <;> rfl) | (simp [*, errW_none, errW_some] <;> rfl), HB.out⟩
             ·
              rw [if_neg c48] at H
              have c48b0 : ((l0_7.length : Int) == a0_2) = false := beq_eq_false_iff_ne.mpr c48
              have c48b1 : ((l0_7.length : Int) != a0_2) = true := bne_iff_ne.mpr c48
              obtain rfl := Option.some.inj H
              obtain ⟨hcz52_0, hcz52_1, hcz52_2, hcz52_3, hcz52_4, hcz52_5, hcz52_6, hcz52_7, hcz52_8, hcz52_9, hcz52_10, hcz52_11⟩ := blkc12 BK225.out
              obtain ⟨hfz52_0, hfz52_1, hfz52_2, hfz52_3, hfz52_4, hfz52_5, hfz52_6, hfz52_7, hfz52_8, hfz52_9, hfz52_10, hfz52_11⟩ := blkf12 BK225.out
              go_wp2
              go_ret
              exact ⟨by first | rfl | (simp [errW_none, errW_some] <;> rfl) | (simp [*, errW_none, errW_some] <;> rfl), HB.out⟩
            ·
             rw [if_neg c47] at H
             have c47b0 : decide (a0_2 ≤ t231) = false := decide_eq_false c47
             clear c47
             obtain rfl := Option.some.inj H
             obtain ⟨hcz53_0, hcz53_1, hcz53_2, hcz53_3, hcz53_4, hcz53_5, hcz53_6, hcz53_7, hcz53_8, hcz53_9, hcz53_10, hcz53_11⟩ := blkc12 BK225.out
             obtain ⟨hfz53_0, hfz53_1, hfz53_2, hfz53_3, hfz53_4, hfz53_5, hfz53_6, hfz53_7, hfz53_8, hfz53_9, hfz53_10, hfz53_11⟩ := blkf12 BK225.out
             go_wp2
             go_ret
             exact ⟨by first | rfl | (simp [errW_none, errW_some] <;> rfl) | (simp [*, errW_none, errW_some] <;> rfl), HB.out⟩
           ·
            rw [if_neg c46] at H
            have c46b0 : decide (1 ≤ a0_2) = false := decide_eq_false c46
            clear c46
            obtain rfl := Option.some.inj H
            obtain ⟨hcz54_0, hcz54_1, hcz54_2, hcz54_3, hcz54_4, hcz54_5, hcz54_6, hcz54_7, hcz54_8, hcz54_9, hcz54_10, hcz54_11⟩ := blkc12 BK225.out
            obtain ⟨hfz54_0, hfz54_1, hfz54_2, hfz54_3, hfz54_4, hfz54_5, hfz54_6, hfz54_7, hfz54_8, hfz54_9, hfz54_10, hfz54_11⟩ := blkf12 BK225.out
            go_wp2
            go_ret
            exact ⟨by first | rfl | (simp [errW_none, errW_some] <;> rfl) | (simp [*, errW_none, errW_some] <;> rfl), HB.out⟩
          ·
           rw [if_neg c45] at H
           have c45b0 : (a0_0 == 23) = false := beq_eq_false_iff_ne.mpr c45
           have c45b1 : (a0_0 != 23) = true := bne_iff_ne.mpr c45
           by_cases c55 : a0_0 = 43
           ·
            rw [if_pos c55] at H
            have c55b0 : (a0_0 == 43) = true := beq_iff_eq.mpr c55
            have c55b1 : (a0_0 != 43) = false := bne_eq_false_iff_eq.mpr c55
            clear c55
            by_cases c56 : a0_10 ≥ 1
            ·
             rw [if_pos c56] at H
             have c56b0 : decide (1 ≤ a0_10) = true := decide_eq_true c56
             clear c56
             by_cases c57 : a0_10 ≤ 4
             ·
              rw [if_pos c57] at H
              have c57b0 : decide (a0_10 ≤ 4) = true := decide_eq_true c57
              clear c57
              replace H := Option.bind_eq_some_iff.mp H
              obtain ⟨t232, A580, H⟩ := H
              have A58 := Aside0.mk A580
              clear A580
              obtain rfl := Option.some.inj H
              obtain ⟨hcz59_0, hcz59_1, hcz59_2, hcz59_3, hcz59_4, hcz59_5, hcz59_6, hcz59_7, hcz59_8, hcz59_9, hcz59_10, hcz59_11⟩ := blkc12 BK225.out
              obtain ⟨hfz59_0, hfz59_1, hfz59_2, hfz59_3, hfz59_4, hfz59_5, hfz59_6, hfz59_7, hfz59_8, hfz59_9, hfz59_10, hfz59_11⟩ := blkf12 BK225.out
              go_wp2_with (first | (go_at_call 62; (with_reducible refine (busbarref5_byteful.calls a0_11 t232 _ A58.out).mono ?_); rintro e w' ⟨rfl, ⟨nd, rfl⟩⟩))
              go_ret
              exact ⟨by first | rfl | (simp [errW_none, errW_some] <;> rfl) | (simp [*, errW_none, errW_some] <;> rfl), by repeat (first | (with_reducible first | exact HB.out | apply below_alloc | apply pw_below_drewN | apply below_drew1 | refine below_set ?_ GE225.out) | exact HB.out)⟩
             ·
              rw [if_neg c57] at H
              have c57b0 : decide (a0_10 ≤ 4) = false := decide_eq_false c57
              clear c57
              obtain rfl := Option.some.inj H
              obtain ⟨hcz60_0, hcz60_1, hcz60_2, hcz60_3, hcz60_4, hcz60_5, hcz60_6, hcz60_7, hcz60_8, hcz60_9, hcz60_10, hcz60_11⟩ := blkc12 BK225.out
              obtain ⟨hfz60_0, hfz60_1, hfz60_2, hfz60_3, hfz60_4, hfz60_5, hfz60_6, hfz60_7, hfz60_8, hfz60_9, hfz60_10, hfz60_11⟩ := blkf12 BK225.out
              go_wp2
              go_ret
              exact ⟨by first | rfl | (simp [errW_none, errW_some] <;> rfl) | (simp [*, errW_none, errW_some] <;> rfl), HB.out⟩
            ·
             rw [if_neg c56] at H
             have c56b0 : decide (1 ≤ a0_10) = false := decide_eq_false c56
             clear c56
             obtain rfl := Option.some.inj H
             obtain ⟨hcz61_0, hcz61_1, hcz61_2, hcz61_3, hcz61_4, hcz61_5, hcz61_6, hcz61_7, hcz61_8, hcz61_9, hcz61_10, hcz61_11⟩ := blkc12 BK225.out
             obtain ⟨hfz61_0, hfz61_1, hfz61_2, hfz61_3, hfz61_4, hfz61_5, hfz61_6, hfz61_7, hfz61_8, hfz61_9, hfz61_10, hfz61_11⟩ := blkf12 BK225.out
             go_wp2
             go_ret
             exact ⟨by first | rfl | (simp [errW_none, errW_some] <;> rfl) | (simp [*, errW_none, errW_some] <;> rfl), HB.out⟩
           ·
            rw [if_neg c55] at H
            have c55b0 : (a0_0 == 43) = false := beq_eq_false_iff_ne.mpr c55
            have c55b1 : (a0_0 != 43) = true := bne_iff_ne.mpr c55
            obtain rfl := Option.some.inj H
            go_wp2
            go_ret
            exact ⟨by first | rfl | (simp [errW_none, errW_some] <;> rfl) | (simp [*, errW_none, errW_some] <;> rfl), HB.out⟩
end Go.Proofs.Ytakiojmjalbfpaa.PFlow
namespace Go.Proofs.Ytakiojmjalbfpaa.PFlow
open Go.RowKit Go.Proofs.YtakiojmjalbfpaaW.PrintWords Go.Proofs.YtakiojmjalbfpaaW.PrintLast Go.Proofs.YtakiojmjalbfpaaW.PrintMore
attribute [local go_sem] max2_int min2_int max_two min_two max_three min_three max_four min_four plus_setCell_drewN plus_cell_same   -- for this text's walks alone
set_option linter.unusedVariables false
set_option linter.unusedSimpArgs false
def busbarref1_Bytes.f (a0 : Int) : Option (Int) := if a0 < 1 then (some 0) else (some (wrap64 ((wrap64 (Int.tdiv (wrap64 (a0 - 1)) 8)) + 1)))
set_option maxHeartbeats 8000000 in
set_option maxRecDepth 100000 in
theorem busbarref1_Bytes.calls (a0 : Int) (r : Int) (w : World) (h : busbarref1_Bytes.f a0 = some r) :
  Calls Try.prog 47 #[.int .i64 a0] w fun e w' => e = .returned (.int .i64 r) ∧ Drawn0 w w' := by
 have H : (if a0 < 1 then (some 0) else (some (wrap64 ((wrap64 (Int.tdiv (wrap64 (a0 - 1)) 8)) + 1)))) = some r := h
 clear h
 by_cases c2 : a0 < 1
 ·
  rw [if_pos c2] at H
  have c2b0 : decide (a0 < 1) = true := decide_eq_true c2
  clear c2
  obtain rfl := Option.some.inj H
  go_enter Try.func47, Try.ntmps47
  go_wp2
  go_ret
  exact ⟨by first | rfl | (simp; done) | (simp [*]; done), by repeat (first | exact Drawn0.refl _ | apply Drawn0.step)⟩
 ·
  rw [if_neg c2] at H
  have c2b0 : decide (a0 < 1) = false := decide_eq_false c2
  clear c2
  obtain rfl := Option.some.inj H
  go_enter Try.func47, Try.ntmps47
  go_wp2
  go_ret
  exact ⟨by first | rfl | (simp; done) | (simp [*]; done), by repeat (first | exact Drawn0.refl _ | apply Drawn0.step)⟩
end Go.Proofs.Ytakiojmjalbfpaa.PFlow
namespace Go.Proofs.Ytakiojmjalbfpaa.PFlow
open Go.RowKit Go.Proofs.YtakiojmjalbfpaaW.PrintWords Go.Proofs.YtakiojmjalbfpaaW.PrintLast Go.Proofs.YtakiojmjalbfpaaW.PrintMore
attribute [local go_sem] max2_int min2_int max_two min_two max_three min_three max_four min_four plus_setCell_drewN plus_cell_same   -- for this text's walks alone
set_option linter.unusedVariables false
set_option linter.unusedSimpArgs false
def busbarref1_power.l0 : Nat → Int → Int → Int → Option (Int)
 | 0, _, _, _ => none
 | k + 1, x0, x3, x4 => if x4 < x0 then (busbarref1_power.l0 k x0 ((x3 * 2) % 256) (wrap64 (x4 + 1))) else (some x3)
def busbarref1_power.f (k : Nat) (a0 : Int) : Option (Int) := busbarref1_power.l0 k a0 1 0
theorem busbarref1_power.mono_l : ∀ k, (∀ y0 y1 y2, LeO (busbarref1_power.l0 k y0 y1 y2) (busbarref1_power.l0 (k + 1) y0 y1 y2))
 | 0 => fun _ _ _ r h => by simp [busbarref1_power.l0] at h
 | k + 1 => by
  have ih0 := busbarref1_power.mono_l k
  ·
   intro y0 y1 y2
   unfold busbarref1_power.l0
   repeat' first
   | (with_reducible exact ih0 _ _ _)
   | (with_reducible exact LeO.refl _)
   | (with_reducible exact LeO.none _)
   | (with_reducible refine LeO.ite ?_ ?_)
   | (with_reducible refine LeO.bind ?_ (fun _ => ?_))
   | exact ih0 _ _ _
   | exact LeO.none _
   | refine LeO.ite ?_ ?_
   | refine LeO.bind ?_ (fun _ => ?_)
theorem busbarref1_power.mono : ∀ a0 k, LeO (busbarref1_power.f k a0) (busbarref1_power.f (k + 1) a0) := by
 intro a0 k
 have ih0 := busbarref1_power.mono_l k
 unfold busbarref1_power.f
 repeat' first
   | (with_reducible exact ih0 _ _ _)
   | (with_reducible exact LeO.refl _)
   | (with_reducible exact LeO.none _)
   | (with_reducible refine LeO.ite ?_ ?_)
   | (with_reducible refine LeO.bind ?_ (fun _ => ?_))
   | exact ih0 _ _ _
   | exact LeO.none _
   | refine LeO.ite ?_ ?_
   | refine LeO.bind ?_ (fun _ => ?_)
set_option maxHeartbeats 8000000 in
set_option maxRecDepth 100000 in
theorem busbarref1_power.calls (k : Nat) (a0 : Int) (r : Int) (w : World) (h : busbarref1_power.f k a0 = some r) :
  Calls Try.prog 64 #[.int .i64 a0] w fun e w' => e = .returned (.int .u8 r) ∧ Drawn0 w w' := by
 have H : (busbarref1_power.l0 k a0 1 0) = some r := h
 clear h
 have H' := Aside0.mk H
 clear H
 go_enter Try.func64, Try.ntmps64
 go_wp2
 go_loopg [3, 4] k (fun kq v3 v4 w' => ∃ (x3_1 : Int) (x4_1 : Int), v3 = .int .u8 x3_1 ∧ v4 = .int .i64 x4_1 ∧ Aside0 (busbarref1_power.l0 kq a0 x3_1 x4_1 = some r) ∧ Aside0 (kq ≤ k) ∧ Drawn0 w w')
 case atStart => exact ⟨(1), (0), (by first | rfl | (simp; done) | (simp [*]; done)), (by first | rfl | (simp; done) | (simp [*]; done)), H', ⟨Nat.le_refl _⟩, by repeat (first | exact Drawn0.refl _ | apply Drawn0.step)⟩
 case round =>
  clear H'
  obtain ⟨x3_1, x4_1, rfl, rfl, HA, HK1, ⟨m1, rfl⟩⟩ := hrel
  cases gk with
  | zero => exact absurd HA.out (by simp [busbarref1_power.l0])
  | succ k1 =>
   have H := HA.out
   clear HA
   simp only [busbarref1_power.l0] at H
   by_cases c2 : x4_1 < a0
   ·
    rw [if_pos c2] at H
    have c2b0 : decide (x4_1 < a0) = true := decide_eq_true c2
    clear c2
    have H' := Aside0.mk H
    clear H
    go_wp2
    go_roundg k1
    case measure => have := HK1.out; omega
    case rel => exact ⟨((x3_1 * 2) % 256), (wrap64 (x4_1 + 1)), (by first | rfl | (simp; done) | (simp [*]; done)), (by first | rfl | (simp; done) | (simp [*]; done)), H', ⟨by have := HK1.out; omega⟩, by repeat (first | exact Drawn0.refl _ | apply Drawn0.step)⟩
   ·
    rw [if_neg c2] at H
    have c2b0 : decide (x4_1 < a0) = false := decide_eq_false c2
    clear c2
    obtain rfl := Option.some.inj H
    go_wp2
    go_ret
    exact ⟨by first | rfl | (simp; done) | (simp [*]; done), by repeat (first | exact Drawn0.refl _ | apply Drawn0.step)⟩
end Go.Proofs.Ytakiojmjalbfpaa.PFlow
namespace Go.Proofs.Ytakiojmjalbfpaa.PFlow
open Go.RowKit Go.Proofs.YtakiojmjalbfpaaW.PrintWords Go.Proofs.YtakiojmjalbfpaaW.PrintLast Go.Proofs.YtakiojmjalbfpaaW.PrintMore
attribute [local go_sem] max2_int min2_int max_two min_two max_three min_three max_four min_four plus_setCell_drewN plus_cell_same   -- for this text's walks alone
set_option linter.unusedVariables false
set_option linter.unusedSimpArgs false
def busbarref1_Pack.l0 : Nat → List Bool → List Int → Int → Option (List Int)
 | 0, _, _, _ => none
 | k + 1, x0, x3, x4 => if x4 < (x0.length : Int) then (if 0 ≤ x4 then (if rdOf false x0 x4 = true then (if 0 ≤ (wrap64 (Int.tdiv x4 8)) then (if (wrap64 (Int.tdiv x4 8)) < (x3.length : Int) then ((busbarref1_power.f k (Int.tmod x4 8)).bind fun t239 => (busbarref1_Pack.l0 k x0 (x3.set ((wrap64 (Int.tdiv x4 8)) : Int).toNat (((rd x3 (wrap64 (Int.tdiv x4 8))) + t239) % 256)) (wrap64 (x4 + 1)))) else (none)) else (none)) else (busbarref1_Pack.l0 k x0 x3 (wrap64 (x4 + 1)))) else (none)) else (some x3)
def busbarref1_Pack.f (k : Nat) (l0 : List Bool) : Option (List Int) := (busbarref1_Bytes.f (l0.length : Int)).bind fun t233 => (if 0 ≤ t233 then (if (t233 : Int).toNat ≤ 281474976710656 then (busbarref1_Pack.l0 k l0 (List.replicate (t233 : Int).toNat 0) 0) else (none)) else (none))
theorem busbarref1_Pack.mono_l : ∀ k, (∀ y0 y1 y2, LeO (busbarref1_Pack.l0 k y0 y1 y2) (busbarref1_Pack.l0 (k + 1) y0 y1 y2))
 | 0 => fun _ _ _ r h => by simp [busbarref1_Pack.l0] at h
 | k + 1 => by
  have ih0 := busbarref1_Pack.mono_l k
  ·
   intro y0 y1 y2
   unfold busbarref1_Pack.l0
   repeat' first
   | (with_reducible exact ih0 _ _ _)
   | (with_reducible exact busbarref1_power.mono _ _)
   | (with_reducible exact LeO.refl _)
   | (with_reducible exact LeO.none _)
   | (with_reducible refine LeO.ite ?_ ?_)
   | (with_reducible refine LeO.bind ?_ (fun _ => ?_))
   | exact ih0 _ _ _
   | exact busbarref1_power.mono _ _
   | exact LeO.none _
   | refine LeO.ite ?_ ?_
   | refine LeO.bind ?_ (fun _ => ?_)
theorem busbarref1_Pack.mono : ∀ a0 k, LeO (busbarref1_Pack.f k a0) (busbarref1_Pack.f (k + 1) a0) := by
 intro a0 k
 have ih0 := busbarref1_Pack.mono_l k
 unfold busbarref1_Pack.f
 repeat' first
   | (with_reducible exact ih0 _ _ _)
   | (with_reducible exact busbarref1_power.mono _ _)
   | (with_reducible exact LeO.refl _)
   | (with_reducible exact LeO.none _)
   | (with_reducible refine LeO.ite ?_ ?_)
   | (with_reducible refine LeO.bind ?_ (fun _ => ?_))
   | exact ih0 _ _ _
   | exact busbarref1_power.mono _ _
   | exact LeO.none _
   | refine LeO.ite ?_ ?_
   | refine LeO.bind ?_ (fun _ => ?_)
def busbarref1_Pack.T6 : Bool × List (List Nat × List Nat) := (true, [([], []), ([], []), ([1], [1]), ([0, 2], [0, 2]), ([3], [3]), ([], []), ([5], [5]), ([6], [6]), ([4, 7], [4, 7]), ([0, 2, 0, 1, 2, 3, 4, 5, 6, 7, 8], [0, 2]), ([9, 8, 7, 0, 1, 2, 3, 4, 5, 6, 7, 8], [8, 9])])
def busbarref1_Pack.B6 : List Nat := [0, 0, 2, 7, 15, 0, 32, 96, 255, 511, 1023]
theorem busbarref1_Pack.tab6 : rtab .any (opsOf Try.f48 6) = busbarref1_Pack.T6 := by kernel_rfl
theorem busbarref1_Pack.bits6 : waitsOk busbarref1_Pack.T6.2 busbarref1_Pack.B6 = true := by kernel_rfl
set_option maxHeartbeats 8000000 in
set_option maxRecDepth 100000 in
theorem busbarref1_Pack.calls (k : Nat) (A0 : Option Addr) (c0 : Nat) (l0 : List Bool) (r : List Int) (w : World) (hr0 : Kd.C Kd.bool w A0 l0.length l0) (hc0 : l0.length ≤ c0) (h : busbarref1_Pack.f k l0 = some r) :
  Calls Try.prog 48 #[.slice A0 l0.length c0] w fun e w' => ∃ v0_ : Value, e = .returned (v0_) ∧ Kd.R (Kd.int .u8) 5 w' w.heap.size (fun _ => True) v0_ r ∧ Below w.heap.size w w' := by
 have HR0 := Aside0.mk hr0
 have HC0 := Aside0.mk hc0
 clear hr0 hc0
 have HB := Aside0.mk (Below.refl w.heap.size w)
 have H : ((busbarref1_Bytes.f (l0.length : Int)).bind fun t233 => (if 0 ≤ t233 then (if (t233 : Int).toNat ≤ 281474976710656 then (busbarref1_Pack.l0 k l0 (List.replicate (t233 : Int).toNat 0) 0) else (none)) else (none))) = some r := h
 clear h
 replace H := Option.bind_eq_some_iff.mp H
 obtain ⟨t233, A20, H⟩ := H
 replace H : (if 0 ≤ t233 then (if (t233 : Int).toNat ≤ 281474976710656 then (busbarref1_Pack.l0 k l0 (List.replicate (t233 : Int).toNat 0) 0) else (none)) else (none)) = some r := H
 have A2 := Aside0.mk A20
 clear A20
 by_cases c3 : 0 ≤ t233
 ·
  rw [if_pos c3] at H
  have c3b0 := eq_true c3
  have c3b1 : decide (0 ≤ t233) = true := decide_eq_true c3
  clear c3
  by_cases c4 : (t233 : Int).toNat ≤ 281474976710656
  ·
   rw [if_pos c4] at H
   have c4b0 := eq_true c4
   have c4b1 : decide ((t233 : Int).toNat ≤ 281474976710656) = true := decide_eq_true c4
   clear c4
   obtain ⟨y234, hy234⟩ : ∃ y_ : List Int, y_ = (List.replicate (t233 : Int).toNat 0) := ⟨_, rfl⟩
   replace H : (busbarref1_Pack.l0 k l0 y234 0) = some r := by first | (rw [hy234]; with_reducible exact H) | (have H2_ := (Option.bind_some _ _).symm.trans H; rw [hy234]; with_reducible exact H2_) | (have H2_ := (Option.bind_some _ _).symm.trans H; with_reducible exact H2_) | with_reducible exact H | (rw [hy234]; exact H) | exact H
   have Ny234 := Aside0.mk hy234
   clear hy234
   have H' := Aside0.mk H
   clear H
   go_enter Try.func48, Try.ntmps48
   go_wp2_with (first | ((with_reducible refine gate_callee (f := 47) rfl ?_); refine goesL_ (some 7) rfl rfl Try.func47 (by kernel_rfl) rfl #[.int .i64 (l0.length : Int)] rfl (by (try simp only [List.map_toArray, List.map_cons, List.map_nil]); first | done | rfl | (simp only [List.length_drop, List.length_take]; rfl)) ?_; (with_reducible refine (busbarref1_Bytes.calls (l0.length : Int) t233 _ A2.out).mono ?_); rintro e w' ⟨rfl, ⟨nd, rfl⟩⟩; refine ⟨_, rfl, ?_⟩) | ((with_reducible refine gate_dst (N := 8) rfl ?_); refine Kd.R_make (Kd.int .u8) _ 5 rfl (N := 8) rfl 30 _ _ rfl t233 rfl rfl Try.underlying30 (.int .u8 0) 1 info5 rfl (by decide) (by omega) 0 (ok := fun _ => True) (okp := fun _ => True) rfl (fun _ hk => hk) trivial (of_decide_eq_true (by first | (with_reducible assumption) | assumption)) (Nat.le_trans (Nat.mul_le_mul_right _ (of_decide_eq_true (by first | (with_reducible assumption) | assumption) : t233.toNat ≤ 281474976710656)) (by omega)) (Below.refl _ _) (Nat.le_refl _) ?_; intro v235 w5 ho6 hb hg_ hnew_; clear hg_ hnew_; (first | rw [← Ny234.out] at ho6 | (simp only [Int.reduceToNat] at ho6; rw [← Ny234.out] at ho6)); have n0_ := Aside0.mk (Kd.R_lower ho6 (below_size (by repeat (first | (with_reducible first | exact HB.out | apply below_alloc | apply pw_below_drewN | apply below_drew1) | exact HB.out)))); have n1_ := Aside0.mk (below_step (by repeat (first | (with_reducible first | exact HB.out | apply below_alloc | apply pw_below_drewN | apply below_drew1) | exact HB.out)) hb); clear HB; have HO236 := n0_; have HB := n1_; clear n0_ n1_; clear hb ho6))
   go_loopg [4] k (fun kq v4 w' => ∃ (x3_1 : List Int) (x4_1 : Int), v4 = .int .i64 x4_1 ∧ Aside0 (busbarref1_Pack.l0 kq l0 x3_1 x4_1 = some r) ∧ Aside0 (kq ≤ k) ∧ Aside0 (Kd.R (Kd.int .u8) 5 w' w.heap.size (fun _ => True) v235 x3_1) ∧ Aside0 (Below w.heap.size w w'))
   case atStart => exact ⟨(y234), (0), (by first | rfl | (simp; done) | (simp [*]; done)), H', ⟨Nat.le_refl _⟩, ⟨by (with_reducible repeat (first | apply Kd.R_alloc | apply Kd.R_drewN | apply Kd.R_drew)); exact HO236.out⟩, ⟨by repeat (first | (with_reducible first | exact HB.out | apply below_alloc | apply pw_below_drewN | apply below_drew1) | exact HB.out)⟩⟩
   case round =>
    clear H'
    try clear p2
    try clear c3
    try clear c3b0
    try clear c3b1
    try clear c4
    try clear c4b0
    try clear c4b1
    obtain ⟨x3_1, x4_1, rfl, HA, HK1, HO_3, HB⟩ := hrel
    cases gk with
    | zero => exact absurd HA.out (by simp [busbarref1_Pack.l0])
    | succ k1 =>
     have H := HA.out
     clear HA
     simp only [busbarref1_Pack.l0] at H
     by_cases c7 : x4_1 < (l0.length : Int)
     ·
      rw [if_pos c7] at H
      have c7b0 : decide (x4_1 < (l0.length : Int)) = true := decide_eq_true c7
      clear c7
      by_cases c8 : 0 ≤ x4_1
      ·
       rw [if_pos c8] at H
       have c8b0 : decide (0 ≤ x4_1) = true := decide_eq_true c8
       clear c8
       obtain ⟨bq9, hbq9⟩ : ∃ b_ : Bool, b_ = (rdOf false l0 x4_1) := ⟨_, rfl⟩
       replace H : (if bq9 = true then (if 0 ≤ (wrap64 (Int.tdiv x4_1 8)) then (if (wrap64 (Int.tdiv x4_1 8)) < (x3_1.length : Int) then ((busbarref1_power.f k1 (Int.tmod x4_1 8)).bind fun t239 => (busbarref1_Pack.l0 k1 l0 (x3_1.set ((wrap64 (Int.tdiv x4_1 8)) : Int).toNat (((rd x3_1 (wrap64 (Int.tdiv x4_1 8))) + t239) % 256)) (wrap64 (x4_1 + 1)))) else (none)) else (none)) else (busbarref1_Pack.l0 k1 l0 x3_1 (wrap64 (x4_1 + 1)))) = some r := by rw [← hbq9] at H; exact H
       have Nbq9 := Aside0.mk hbq9
       clear hbq9
       by_cases c10 : bq9 = true
       ·
        subst c10
        have H1 : (if 0 ≤ (wrap64 (Int.tdiv x4_1 8)) then (if (wrap64 (Int.tdiv x4_1 8)) < (x3_1.length : Int) then ((busbarref1_power.f k1 (Int.tmod x4_1 8)).bind fun t239 => (busbarref1_Pack.l0 k1 l0 (x3_1.set ((wrap64 (Int.tdiv x4_1 8)) : Int).toNat (((rd x3_1 (wrap64 (Int.tdiv x4_1 8))) + t239) % 256)) (wrap64 (x4_1 + 1)))) else (none)) else (none)) = some r := by rw [if_pos rfl] at H; exact H
        clear H
        have H := H1
        clear H1
        obtain ⟨ji11, hji11⟩ : ∃ j_ : Int, (wrap64 (Int.tdiv x4_1 8)) = j_ := ⟨_, rfl⟩
        replace H : (if 0 ≤ (ji11) then (if (ji11) < (x3_1.length : Int) then ((busbarref1_power.f k1 (Int.tmod x4_1 8)).bind fun t239 => (busbarref1_Pack.l0 k1 l0 (x3_1.set ((ji11) : Int).toNat (((rd x3_1 (ji11)) + t239) % 256)) (wrap64 (x4_1 + 1)))) else (none)) else (none)) = some r := by first | (rw [hji11] at H; exact H) | (simp only [hji11] at H ⊢; exact H)
        have hji11w : (IntKind.i64.wrap (Int.tdiv x4_1 8)) = ji11 := (i64_w _).trans hji11
        by_cases c12 : 0 ≤ (ji11)
        ·
         rw [if_pos c12] at H
         have c12b0 : decide (0 ≤ (ji11)) = true := decide_eq_true c12
         clear c12
         by_cases c13 : (ji11) < (x3_1.length : Int)
         ·
          rw [if_pos c13] at H
          have c13b0 : decide ((ji11) < (x3_1.length : Int)) = true := decide_eq_true c13
          clear c13
          replace H := Option.bind_eq_some_iff.mp H
          obtain ⟨t239, A140, H⟩ := H
          replace H : (busbarref1_Pack.l0 k1 l0 (x3_1.set ((ji11) : Int).toNat (((rd x3_1 (ji11)) + t239) % 256)) (wrap64 (x4_1 + 1))) = some r := H
          have A14 := Aside0.mk A140
          clear A140
          obtain ⟨y240, hy240⟩ : ∃ y_ : List Int, y_ = (x3_1.set ((ji11) : Int).toNat (((rd x3_1 (ji11)) + t239) % 256)) := ⟨_, rfl⟩
          replace H : (busbarref1_Pack.l0 k1 l0 y240 (wrap64 (x4_1 + 1))) = some r := by first | (rw [hy240]; with_reducible exact H) | (have H2_ := (Option.bind_some _ _).symm.trans H; rw [hy240]; with_reducible exact H2_) | (have H2_ := (Option.bind_some _ _).symm.trans H; with_reducible exact H2_) | with_reducible exact H | (rw [hy240]; exact H) | exact H
          have Ny240 := Aside0.mk hy240
          clear hy240
          have H' := Aside0.mk H
          clear H
          have p237 : 0 ≤ (x4_1 : Int) := of_decide_eq_true (by first | (with_reducible assumption) | assumption)
          have q237 : x4_1 < (l0.length : Int) := of_decide_eq_true (by first | (with_reducible assumption) | assumption)
          obtain ⟨ad237, e237, hx237_0⟩ := Kd.at_bool HR0.out x4_1 p237 q237
          (try rw [← Nbq9.out] at hx237_0)
          cases e237
          replace hx237_0 := (HB.out.cell (World.block_lt_of_cell? w _ hx237_0)).trans hx237_0
          replace p237 := eq_true p237
          replace q237 := eq_true q237
          try go_wp2
          have n0_ := Aside0.mk (Kd.R_drew HO_3.out)
          have n1_ := Aside0.mk (below_drew1 HB.out)
          clear HO_3
          clear HB
          have HO_3 := n0_
          have HB := n1_
          clear n0_ n1_
          obtain ⟨Ao17, co17, eo17⟩ := Kd.R_slice HO_3.out
          (first | subst eo17 | (injection eo17 with f1_ f2_ f3_; have f4_ := f1_.symm; have f5_ := f3_.symm; clear f1_ f2_ f3_; subst f4_; subst f5_))
          have p238 : 0 ≤ ((ji11) : Int) := of_decide_eq_true (by first | (with_reducible assumption) | assumption)
          have q238 : (ji11) < (x3_1.length : Int) := of_decide_eq_true (by first | (with_reducible assumption) | assumption)
          obtain ⟨ad238, e238, hx238_0⟩ := Kd.at_int (Kd.R_reads' HO_3.out).2.2 (ji11) p238 q238
          cases e238
          replace p238 := eq_true p238
          replace q238 := eq_true q238
          refine start_ (n := 11) (S := fun w' => w'.cell? (ad238.add ((ji11)).toNat) = some (.int .u8 (rd x3_1 (ji11)))) (ds := [10]) #[false,false,false,false,false,false,false,false,false,false,false] (by kernel_rfl) rfl rfl (hx238_0) (fun hHeld => ?_); refine with_tabW busbarref1_Pack.tab6 busbarref1_Pack.bits6 (fun HT_ HW_ => ?_)
          generalize wr.drew = w16 at HO_3 HB hx238_0 hHeld ⊢
          refine pure_ (i := 0) (N := some 19) (v := ?_) (a' := ?_) #[true,false,false,false,false,false,false,false,false,false,false] rfl rfl (any_of HT_.out (by kernel_rfl)) (fun _ _ _ h => h) (Or.inl ⟨by rfl, ?_⟩) ?_ ?_
          rotate_left
          ·
           intro w'
           go_simp
           with_reducible rfl
          rotate_left
          ·
           simp only [Act.put, List.setIfInBounds_toArray, List.set_cons_zero, List.set_cons_succ, i64_w, i32_w]
           rfl
          refine pure_ (i := 1) (N := some 20) (v := ?_) (a' := ?_) #[true,true,false,false,false,false,false,false,false,false,false] rfl rfl (any_of HT_.out (by kernel_rfl)) (fun _ _ _ h => h) (Or.inl ⟨by rfl, ?_⟩) ?_ ?_
          rotate_left
          ·
           intro w'
           go_simp
           with_reducible rfl
          rotate_left
          ·
           simp only [Act.put, List.setIfInBounds_toArray, List.set_cons_zero, List.set_cons_succ, i64_w, i32_w]
           rfl
          refine pure_ (i := 2) (N := some 21) (v := ?_) (a' := ?_) #[true,true,true,false,false,false,false,false,false,false,false] rfl rfl (any_of HT_.out (by kernel_rfl)) (fun _ _ _ h => h) (Or.inl ⟨by rfl, ?_⟩) ?_ ?_
          rotate_left
          ·
           intro w'
           go_simp
           with_reducible rfl
          rotate_left
          ·
           simp only [Act.put, List.setIfInBounds_toArray, List.set_cons_zero, List.set_cons_succ, i64_w, i32_w]
           rfl
          refine pure_ (i := 3) (N := some 22) (v := ?_) (a' := ?_) #[true,true,true,true,false,false,false,false,false,false,false] rfl rfl (any_of HT_.out (by kernel_rfl)) (fun _ _ _ h => h) (Or.inl ⟨by rfl, ?_⟩) ?_ ?_
          rotate_left
          ·
           intro w'
           go_simp
           with_reducible rfl
          rotate_left
          ·
           simp only [Act.put, List.setIfInBounds_toArray, List.set_cons_zero, List.set_cons_succ, i64_w, i32_w]
           rfl
          refine pure_ (i := 5) (N := some 24) (v := ?_) (a' := ?_) #[true,true,true,true,false,true,false,false,false,false,false] rfl rfl (any_of HT_.out (by kernel_rfl)) (fun _ _ _ h => h) (Or.inl ⟨by rfl, ?_⟩) ?_ ?_
          rotate_left
          ·
           intro w'
           go_simp
           with_reducible rfl
          rotate_left
          ·
           simp only [Act.put, List.setIfInBounds_toArray, List.set_cons_zero, List.set_cons_succ, i64_w, i32_w]
           rfl
          refine pure_ (i := 6) (N := some 25) (v := ?_) (a' := ?_) #[true,true,true,true,false,true,true,false,false,false,false] rfl rfl (any_of HT_.out (by kernel_rfl)) (fun _ _ _ h => h) (Or.inl ⟨by rfl, ?_⟩) ?_ ?_
          rotate_left
          ·
           intro w'
           go_simp
           with_reducible rfl
          rotate_left
          ·
           simp only [Act.put, List.setIfInBounds_toArray, List.set_cons_zero, List.set_cons_succ, i64_w, i32_w]
           rfl
          refine take_ (i := 4) (N := some 23) (v := ?_) (a' := ?_) #[true,true,true,true,true,true,true,false,false,false,false] rfl rfl (take_ofW HT_.out HW_.out (by kernel_rfl)) (fun _ _ _ h => h) (Or.inl ⟨by rfl, ?_⟩) hHeld ?_ ?_
          rotate_left
          ·
           intro w' s0
           go_simp
           with_reducible rfl
          rotate_left
          ·
           simp only [Act.put, List.setIfInBounds_toArray, List.set_cons_zero, List.set_cons_succ, i64_w, i32_w]
           rfl
          refine one_ (i := 7) (N := some 26) #[true,true,true,true,true,true,true,true,false,false,false] rfl rfl (one_of HT_.out (by kernel_rfl)) (by decide) (fun K hK => ?_)
          refine goes_ Try.func64 (by kernel_rfl) rfl #[.int .i64 (Int.tmod x4_1 8)] (by rfl) rfl rfl (by (try simp only [List.map_toArray, List.map_cons, List.map_nil]); first | done | rfl | (simp only [List.length_drop, List.length_take]; rfl)) ?_
          with_reducible refine (busbarref1_power.calls k1 (Int.tmod x4_1 8) t239 _ A14.out).mono ?_
          rintro e w' ⟨rfl, ⟨nd, rfl⟩⟩
          refine ⟨_, rfl, ?_⟩
          have p15 : 0 ≤ ((ji11) : Int) := of_decide_eq_true (by first | (with_reducible assumption) | assumption)
          have q15 : ((ji11) : Int) < ((x3_1.length : Int) : Int) := of_decide_eq_true (by first | (with_reducible assumption) | assumption)
          obtain ⟨go15, co15, eo15, gb15, gl15, cl15, HG15⟩ := Kd.R_form HO_3.out (by omega)
          (first | cases eo15 | (injection eo15 with ea_ en_ ec_; (first | subst ea_ | (injection ea_ with ea_; subst ea_)); subst ec_; clear en_))
          have GB15 := Aside0.mk gb15
          have GG15 := Aside0.mk HG15
          clear gb15 gl15 HG15
          (first | simp only [add_plain] at hx238_0 | skip)
          obtain ⟨hx15_0, hf15_0⟩ := Kd.R_celln 0 HO_3.out ((ji11) : Int) p15 q15
          replace p15 := eq_true p15
          replace q15 := eq_true q15
          have HP18 := Kd.R_putn HO_3.out ((ji11) : Int) (((rd x3_1 (ji11)) + t239) % 256)
          rw [← Ny240.out] at HP18
          have HQ18 := Aside0.mk HP18
          clear HP18
          refine hK.out _ _ (hHeld) (fun hHeld => ?_)
          clear hK K
          refine norm_ (a' := ?_) ?_ ?_
          rotate_left
          ·
           show Act.put _ (some 26) _ = _
           simp only [Act.put, List.setIfInBounds_toArray, List.set_cons_zero, List.set_cons_succ, i64_w, i32_w]
           rfl
          refine pure_ (i := 8) (N := some 27) (v := ?_) (a' := ?_) #[true,true,true,true,true,true,true,true,true,false,false] rfl rfl (any_of HT_.out (by kernel_rfl)) (fun _ _ _ h => h) (Or.inl ⟨by rfl, ?_⟩) ?_ ?_
          rotate_left
          ·
           intro w'
           go_simp
           with_reducible rfl
          rotate_left
          ·
           simp only [Act.put, List.setIfInBounds_toArray, List.set_cons_zero, List.set_cons_succ, i64_w, i32_w]
           rfl
          refine pure_ (i := 9) (N := some 28) (v := ?_) (a' := ?_) #[true,true,true,true,true,true,true,true,true,true,false] rfl rfl (any_of HT_.out (by kernel_rfl)) (fun _ _ _ h => h) (Or.inl ⟨by rfl, ?_⟩) ?_ ?_
          rotate_left
          ·
           intro w'
           go_simp
           with_reducible rfl
          rotate_left
          ·
           simp only [Act.put, List.setIfInBounds_toArray, List.set_cons_zero, List.set_cons_succ, i64_w, i32_w]
           rfl
          refine last_ (i := 10) (N := none) #[true,true,true,true,true,true,true,true,true,true,true] rfl rfl (one_of HT_.out (by kernel_rfl)) (by decide) (fun K hK => ?_)
          refine skip_ (w1 := ?_) (by rfl) rfl ?_ ?_
          rotate_left
          ·
           go_simp
           rfl
          refine hK.out _ _ ?_
          clear hK K
          refine done_ (done_of HT_.out (by kernel_rfl)) ?_
          try go_wp2
          go_roundg k1
          case measure => have := HK1.out; omega
          case rel => exact ⟨(y240), (wrap64 (x4_1 + 1)), (by first | rfl | (simp; done) | (simp [*]; done)), H', ⟨by have := HK1.out; omega⟩, ⟨by (with_reducible repeat (first | apply Kd.R_alloc | apply Kd.R_drewN | apply Kd.R_drew)); exact HQ18.out⟩, ⟨by repeat (first | (with_reducible first | exact HB.out | apply below_alloc | apply pw_below_drewN | apply below_drew1 | refine below_set ?_ GB15.out) | exact HB.out)⟩⟩
         ·
          rw [if_neg c13] at H
          exact absurd H (by simp)
        ·
         rw [if_neg c12] at H
         exact absurd H (by simp)
       ·
        replace c10 := Bool.eq_false_iff.mpr c10
        subst c10
        have H1 : (busbarref1_Pack.l0 k1 l0 x3_1 (wrap64 (x4_1 + 1))) = some r := by rw [if_neg (show ¬ (false = true) by decide)] at H; exact H
        clear H
        have H := H1
        clear H1
        have H' := Aside0.mk H
        clear H
        have p237 : 0 ≤ (x4_1 : Int) := of_decide_eq_true (by first | (with_reducible assumption) | assumption)
        have q237 : x4_1 < (l0.length : Int) := of_decide_eq_true (by first | (with_reducible assumption) | assumption)
        obtain ⟨ad237, e237, hx237_0⟩ := Kd.at_bool HR0.out x4_1 p237 q237
        (try rw [← Nbq9.out] at hx237_0)
        cases e237
        replace hx237_0 := (HB.out.cell (World.block_lt_of_cell? w _ hx237_0)).trans hx237_0
        replace p237 := eq_true p237
        replace q237 := eq_true q237
        go_wp2
        go_roundg k1
        case measure => have := HK1.out; omega
        case rel => exact ⟨(x3_1), (wrap64 (x4_1 + 1)), (by first | rfl | (simp; done) | (simp [*]; done)), H', ⟨by have := HK1.out; omega⟩, ⟨by (with_reducible repeat (first | apply Kd.R_alloc | apply Kd.R_drewN | apply Kd.R_drew)); exact HO_3.out⟩, ⟨by repeat (first | (with_reducible first | exact HB.out | apply below_alloc | apply pw_below_drewN | apply below_drew1) | exact HB.out)⟩⟩
      ·
       rw [if_neg c8] at H
       exact absurd H (by simp)
     ·
      rw [if_neg c7] at H
      have c7b0 : decide (x4_1 < (l0.length : Int)) = false := decide_eq_false c7
      clear c7
      obtain rfl := Option.some.inj H
      go_wp2
      go_ret
      exact ⟨_, by first | rfl | (simp [errW_none, errW_some] <;> rfl) | (simp [*, errW_none, errW_some] <;> rfl), by (with_reducible repeat (first | apply Kd.R_alloc | apply Kd.R_drewN | apply Kd.R_drew)); exact HO_3.out, by repeat (first | (with_reducible first | exact HB.out | apply below_alloc | apply pw_below_drewN | apply below_drew1) | exact HB.out)⟩
  ·
   rw [if_neg c4] at H
   exact absurd H (by simp)
 ·
  rw [if_neg c3] at H
  exact absurd H (by simp)
end Go.Proofs.Ytakiojmjalbfpaa.PFlow
namespace Go.Proofs.Ytakiojmjalbfpaa.PFlow
open Go.RowKit Go.Proofs.YtakiojmjalbfpaaW.PrintWords Go.Proofs.YtakiojmjalbfpaaW.PrintLast Go.Proofs.YtakiojmjalbfpaaW.PrintMore
attribute [local go_sem] max2_int min2_int max_two min_two max_three min_three max_four min_four plus_setCell_drewN plus_cell_same   -- for this text's walks alone
set_option linter.unusedVariables false
set_option linter.unusedSimpArgs false
def busbarref5_words.l0 : Nat → List Int → List Int → Int → Option (List Int)
 | 0, _, _, _ => none
 | k + 1, x0, x1, x5 => if x5 < (x1.length : Int) then (if 0 ≤ x5 then ((busbarref5_two.f x0 (wrap64 (rd x1 x5))).bind fun t242 => (busbarref5_words.l0 k t242 x1 (wrap64 (x5 + 1)))) else (none)) else (some x0)
def busbarref5_words.f (k : Nat) (l0 : List Int) (l1 : List Int) : Option (List Int) := busbarref5_words.l0 k l0 l1 0
theorem busbarref5_words.mono_l : ∀ k, (∀ y0 y1 y2, LeO (busbarref5_words.l0 k y0 y1 y2) (busbarref5_words.l0 (k + 1) y0 y1 y2))
 | 0 => fun _ _ _ r h => by simp [busbarref5_words.l0] at h
 | k + 1 => by
  have ih0 := busbarref5_words.mono_l k
  ·
   intro y0 y1 y2
   unfold busbarref5_words.l0
   repeat' first
   | (with_reducible exact ih0 _ _ _)
   | (with_reducible exact LeO.refl _)
   | (with_reducible exact LeO.none _)
   | (with_reducible refine LeO.ite ?_ ?_)
   | (with_reducible refine LeO.bind ?_ (fun _ => ?_))
   | exact ih0 _ _ _
   | exact LeO.none _
   | refine LeO.ite ?_ ?_
   | refine LeO.bind ?_ (fun _ => ?_)
theorem busbarref5_words.mono : ∀ a0 a1 k, LeO (busbarref5_words.f k a0 a1) (busbarref5_words.f (k + 1) a0 a1) := by
 intro a0 a1 k
 have ih0 := busbarref5_words.mono_l k
 unfold busbarref5_words.f
 repeat' first
   | (with_reducible exact ih0 _ _ _)
   | (with_reducible exact LeO.refl _)
   | (with_reducible exact LeO.none _)
   | (with_reducible refine LeO.ite ?_ ?_)
   | (with_reducible refine LeO.bind ?_ (fun _ => ?_))
   | exact ih0 _ _ _
   | exact LeO.none _
   | refine LeO.ite ?_ ?_
   | refine LeO.bind ?_ (fun _ => ?_)
set_option maxHeartbeats 8000000 in
set_option maxRecDepth 100000 in
theorem busbarref5_words.calls (k : Nat) (P0_ : Nat → Prop) (A0 : Option Addr) (c0 : Nat) (l0 : List Int) (A1 : Option Addr) (c1 : Nat) (l1 : List Int) (r : List Int) (w : World) (hs0 : Kd.V (Kd.int .u8) 5 w w.heap.size (fun k_ => P0_ k_) (.slice A0 l0.length c0) l0) (hr1 : Kd.C (Kd.int .u16) w A1 l1.length l1) (hc1 : l1.length ≤ c1) (h : busbarref5_words.f k l0 l1 = some r) :
  Calls Try.prog 49 #[.slice A0 l0.length c0, .slice A1 l1.length c1] w fun e w' => ∃ v0_ : Value, e = .returned (v0_) ∧ Kd.V (Kd.int .u8) 5 w' w.heap.size (fun k_ => (P0_ k_ ∨ w.heap.size ≤ k_)) v0_ r ∧ Below w.heap.size w w' := by
 have HO0 := Aside0.mk (show Kd.V (Kd.int .u8) 5 w w.heap.size (fun k_ => (P0_ k_ ∨ w.heap.size ≤ k_)) (.slice A0 l0.length c0) l0 from Kd.V_mono hs0 (fun k_ hk => .inl hk))
 have HR1 := Aside0.mk hr1
 have HC1 := Aside0.mk hc1
 clear hr1 hc1
 have HB := Aside0.mk (Below.refl w.heap.size w)
 have H : (busbarref5_words.l0 k l0 l1 0) = some r := h
 clear h
 have H' := Aside0.mk H
 clear H
 go_enter Try.func49, Try.ntmps49
 go_wp2
 go_loopg [0, 5] k (fun kq v0 v5 w' => ∃ (x0_1 : List Int) (x5_1 : Int), v5 = .int .i64 x5_1 ∧ Aside0 (busbarref5_words.l0 kq x0_1 l1 x5_1 = some r) ∧ Aside0 (kq ≤ k) ∧ Aside0 (Kd.V (Kd.int .u8) 5 w' w.heap.size (fun k_ => (P0_ k_ ∨ w.heap.size ≤ k_)) v0 x0_1) ∧ Aside0 (Below w.heap.size w w'))
 case atStart => exact ⟨(l0), (0), (by first | rfl | (simp; done) | (simp [*]; done)), H', ⟨Nat.le_refl _⟩, ⟨by (with_reducible repeat (first | apply Kd.V_alloc | apply Kd.V_drewN | apply Kd.V_drew)); exact HO0.out⟩, ⟨by repeat (first | (with_reducible first | exact HB.out | apply below_alloc | apply pw_below_drewN | apply below_drew1) | exact HB.out)⟩⟩
 case round =>
  clear H'
  try clear c1
  try clear p2
  obtain ⟨x0_1, x5_1, rfl, HA, HK1, HO_0, HB⟩ := hrel
  cases gk with
  | zero => exact absurd HA.out (by simp [busbarref5_words.l0])
  | succ k1 =>
   have H := HA.out
   clear HA
   simp only [busbarref5_words.l0] at H
   by_cases c3 : x5_1 < (l1.length : Int)
   ·
    rw [if_pos c3] at H
    have c3b0 : decide (x5_1 < (l1.length : Int)) = true := decide_eq_true c3
    clear c3
    by_cases c4 : 0 ≤ x5_1
    ·
     rw [if_pos c4] at H
     have c4b0 : decide (0 ≤ x5_1) = true := decide_eq_true c4
     clear c4
     replace H := Option.bind_eq_some_iff.mp H
     obtain ⟨t242, A50, H⟩ := H
     replace H : (busbarref5_words.l0 k1 t242 l1 (wrap64 (x5_1 + 1))) = some r := H
     have A5 := Aside0.mk A50
     clear A50
     have H' := Aside0.mk H
     clear H
     have p241 : 0 ≤ (x5_1 : Int) := of_decide_eq_true (by first | (with_reducible assumption) | assumption)
     have q241 : x5_1 < (l1.length : Int) := of_decide_eq_true (by first | (with_reducible assumption) | assumption)
     obtain ⟨ad241, e241, hx241_0⟩ := Kd.at_int HR1.out x5_1 p241 q241
     cases e241
     replace hx241_0 := (HB.out.cell (World.block_lt_of_cell? w _ hx241_0)).trans hx241_0
     replace p241 := eq_true p241
     replace q241 := eq_true q241
     obtain ⟨Ao6, co6, eo6⟩ := Kd.V_slice HO_0.out
     subst eo6
     go_wp2_with (first | ((with_reducible refine gate_callee (f := 46) rfl ?_); refine goesL_ (some 18) rfl rfl Try.func46 (by kernel_rfl) rfl #[.slice Ao6 x0_1.length co6, .int .i64 (wrap64 (rd l1 x5_1))] rfl (by (try simp only [List.map_toArray, List.map_cons, List.map_nil]); first | done | rfl | (simp only [List.length_drop, List.length_take]; rfl)) ?_; (with_reducible refine (busbarref5_two.calls _ _ x0_1 (wrap64 (rd l1 x5_1)) t242 _ ?side1 ?side2 A5.out).mono ?_); (case side1 => repeat (first | exact (Kd.V_reads' HO_0.out).2.2 | (with_reducible refine Kd.C_alloc ?_ _) | (with_reducible refine Kd.C_drewN ?_ _) | (with_reducible refine Kd.C_drew ?_))); (case side2 => exact (Kd.V_reads' HO_0.out).2.1); rintro e w7 ⟨v243, rfl, ho0, hb⟩; refine ⟨_, rfl, ?_⟩; have n0_ := Aside0.mk (Kd.V_elder' (by (with_reducible repeat (first | apply Kd.V_alloc | apply Kd.V_drewN | apply Kd.V_drew)); exact HO_0.out) (Kd.R_base ho0) hb); have n1_ := Aside0.mk (Kd.R_lower (Kd.R_newM (M := fun k_ => (w.heap.size ≤ k_)) ho0 (below_size (by repeat (first | (with_reducible first | exact HB.out | apply below_alloc | apply pw_below_drewN | apply below_drew1) | exact HB.out))) (fun k_ h_ => h_)) (below_size (by repeat (first | (with_reducible first | exact HB.out | apply below_alloc | apply pw_below_drewN | apply below_drew1) | exact HB.out)))); have n2_ := Aside0.mk (below_step (by repeat (first | (with_reducible first | exact HB.out | apply below_alloc | apply pw_below_drewN | apply below_drew1) | exact HB.out)) hb); clear HO_0; clear HB; have HO_0 := n0_; have HO244 := n1_; have HB := n2_; clear n0_ n1_ n2_; (try clear hb); (try clear hb2); (try clear hk); (try clear hi); (try clear ho0)))
     go_roundg k1
     case measure => have := HK1.out; omega
     case rel => exact ⟨(t242), (wrap64 (x5_1 + 1)), (by first | rfl | (simp; done) | (simp [*]; done)), H', ⟨by have := HK1.out; omega⟩, ⟨Kd.V_mono (Kd.R_V (by (with_reducible repeat (first | apply Kd.R_alloc | apply Kd.R_drewN | apply Kd.R_drew)); exact Kd.R_mono HO244.out (fun _ hk => by first | exact hk.1 | exact hk))) (fun k_ hk => by first | exact ⟨(.inr (hk.1)), hk.2⟩ | exact (.inr (hk)))⟩, ⟨by repeat (first | (with_reducible first | exact HB.out | apply below_alloc | apply pw_below_drewN | apply below_drew1) | exact HB.out)⟩⟩
    ·
     rw [if_neg c4] at H
     exact absurd H (by simp)
   ·
    rw [if_neg c3] at H
    have c3b0 : decide (x5_1 < (l1.length : Int)) = false := decide_eq_false c3
    clear c3
    obtain rfl := Option.some.inj H
    go_wp2
    go_ret
    exact ⟨_, by first | rfl | (simp [errW_none, errW_some] <;> rfl) | (simp [*, errW_none, errW_some] <;> rfl), by (with_reducible repeat (first | apply Kd.V_alloc | apply Kd.V_drewN | apply Kd.V_drew)); exact HO_0.out, by repeat (first | (with_reducible first | exact HB.out | apply below_alloc | apply pw_below_drewN | apply below_drew1) | exact HB.out)⟩
end Go.Proofs.Ytakiojmjalbfpaa.PFlow
