/- Words and walks for ConfBounds (made of the session's own texts; each part by itself). -/
import Derived.Test.YtjlbgopgeepiaaaZConfBounds6
namespace Go.Proofs.Ytjlbgopgeepiaaa.PConf
open Go.RowKit Go.Proofs.YtjlbgopgeepiaaaW.PrintWords Go.Proofs.YtjlbgopgeepiaaaW.PrintLast Go.Proofs.YtjlbgopgeepiaaaW.PrintMore
attribute [local go_sem] max2_int min2_int max_two min_two max_three min_three max_four min_four plus_setCell_drewN plus_cell_same   -- for this text's walks alone
set_option linter.unusedVariables false
set_option linter.unusedSimpArgs false
mutual
def busbarref12_Check.j0 : Nat → Bool → List (S46) → List (S48) → Int → Int → Int → Int → Int → Int → Int → Int → Int → Int → List (S50) → Option (Int)
 | 0, _, _, _, _, _, _, _, _, _, _, _, _, _, _ => none
 | k + 1, x5, x485000, x485001, x485002, x485003, x485004, x485005, x485006, x485007, x485008, x485009, x485010, x485011, x485012 => if x5 = true then (some 1) else (if x485006 < 0 then (busbarref12_Check.j1 k true x485000 x485001 x485002 x485003 x485004 x485005 x485006 x485007 x485008 x485009 x485010 x485011 x485012) else (if x485006 > 1048576 then (busbarref12_Check.j1 k true x485000 x485001 x485002 x485003 x485004 x485005 x485006 x485007 x485008 x485009 x485010 x485011 x485012) else (if x485007 < 1 then (busbarref12_Check.j1 k true x485000 x485001 x485002 x485003 x485004 x485005 x485006 x485007 x485008 x485009 x485010 x485011 x485012) else (if x485007 > 1000 then (busbarref12_Check.j1 k true x485000 x485001 x485002 x485003 x485004 x485005 x485006 x485007 x485008 x485009 x485010 x485011 x485012) else (if x485008 < 1 then (busbarref12_Check.j1 k true x485000 x485001 x485002 x485003 x485004 x485005 x485006 x485007 x485008 x485009 x485010 x485011 x485012) else (busbarref12_Check.j1 k (decide (x485008 > 5000)) x485000 x485001 x485002 x485003 x485004 x485005 x485006 x485007 x485008 x485009 x485010 x485011 x485012))))))
def busbarref12_Check.j1 : Nat → Bool → List (S46) → List (S48) → Int → Int → Int → Int → Int → Int → Int → Int → Int → Int → List (S50) → Option (Int)
 | 0, _, _, _, _, _, _, _, _, _, _, _, _, _, _ => none
 | k + 1, x34, x485000, x485001, x485002, x485003, x485004, x485005, x485006, x485007, x485008, x485009, x485010, x485011, x485012 => if x34 = true then (some 1) else (if x485009 < 260 then (some 1) else (if x485009 > 65536 then (some 1) else (if x485010 < 260 then (some 1) else (if x485010 > 65536 then (some 1) else ((busbarref12_Plan.f k x485000 x485002).bind fun t485 => (if t485 = 0 then ((busbarref12_Groups.f k x485001 x485000).bind fun t486 => (if t486 = 0 then ((busbarref5_Objects.f k x485012).bind fun t487 => (some t487)) else (some t486))) else (some t485)))))))
end
def busbarref12_Check.f (k : Nat) (l0_0 : List (S46)) (l0_1 : List (S48)) (a0_2 : Int) (a0_3 : Int) (a0_4 : Int) (a0_5 : Int) (a0_6 : Int) (a0_7 : Int) (a0_8 : Int) (a0_9 : Int) (a0_10 : Int) (a0_11 : Int) (l0_12 : List (S50)) : Option (Int) := if a0_3 < 1 then (busbarref12_Check.j0 k true l0_0 l0_1 a0_2 a0_3 a0_4 a0_5 a0_6 a0_7 a0_8 a0_9 a0_10 a0_11 l0_12) else (if a0_3 > 65535 then (busbarref12_Check.j0 k true l0_0 l0_1 a0_2 a0_3 a0_4 a0_5 a0_6 a0_7 a0_8 a0_9 a0_10 a0_11 l0_12) else (if a0_4 < 1 then (busbarref12_Check.j0 k true l0_0 l0_1 a0_2 a0_3 a0_4 a0_5 a0_6 a0_7 a0_8 a0_9 a0_10 a0_11 l0_12) else (if a0_4 > 32 then (busbarref12_Check.j0 k true l0_0 l0_1 a0_2 a0_3 a0_4 a0_5 a0_6 a0_7 a0_8 a0_9 a0_10 a0_11 l0_12) else (if a0_5 < 0 then (busbarref12_Check.j0 k true l0_0 l0_1 a0_2 a0_3 a0_4 a0_5 a0_6 a0_7 a0_8 a0_9 a0_10 a0_11 l0_12) else (busbarref12_Check.j0 k (decide (a0_5 > 32)) l0_0 l0_1 a0_2 a0_3 a0_4 a0_5 a0_6 a0_7 a0_8 a0_9 a0_10 a0_11 l0_12)))))
theorem busbarref12_Check.mono_l : ∀ k, (∀ y0 y1 y2 y3 y4 y5 y6 y7 y8 y9 y10 y11 y12 y13, LeO (busbarref12_Check.j0 k y0 y1 y2 y3 y4 y5 y6 y7 y8 y9 y10 y11 y12 y13) (busbarref12_Check.j0 (k + 1) y0 y1 y2 y3 y4 y5 y6 y7 y8 y9 y10 y11 y12 y13)) ∧ (∀ y0 y1 y2 y3 y4 y5 y6 y7 y8 y9 y10 y11 y12 y13, LeO (busbarref12_Check.j1 k y0 y1 y2 y3 y4 y5 y6 y7 y8 y9 y10 y11 y12 y13) (busbarref12_Check.j1 (k + 1) y0 y1 y2 y3 y4 y5 y6 y7 y8 y9 y10 y11 y12 y13))
 | 0 => ⟨fun _ _ _ _ _ _ _ _ _ _ _ _ _ _ r h => by simp [busbarref12_Check.j0] at h, fun _ _ _ _ _ _ _ _ _ _ _ _ _ _ r h => by simp [busbarref12_Check.j1] at h⟩
 | k + 1 => by
  obtain ⟨ih0, ih1⟩ := busbarref12_Check.mono_l k
  refine ⟨?_, ?_⟩
  ·
   intro y0 y1 y2 y3 y4 y5 y6 y7 y8 y9 y10 y11 y12 y13
   unfold busbarref12_Check.j0
   repeat' first
   | (with_reducible exact ih0 _ _ _ _ _ _ _ _ _ _ _ _ _ _)
   | (with_reducible exact ih1 _ _ _ _ _ _ _ _ _ _ _ _ _ _)
   | (with_reducible exact busbarref12_Groups.mono _ _ _)
   | (with_reducible exact busbarref12_Plan.mono _ _ _)
   | (with_reducible exact busbarref5_Objects.mono _ _)
   | (with_reducible exact LeO.refl _)
   | (with_reducible exact LeO.none _)
   | (with_reducible refine LeO.ite ?_ ?_)
   | (with_reducible refine LeO.bind ?_ (fun _ => ?_))
   | exact ih0 _ _ _ _ _ _ _ _ _ _ _ _ _ _
   | exact ih1 _ _ _ _ _ _ _ _ _ _ _ _ _ _
   | exact busbarref12_Groups.mono _ _ _
   | exact busbarref12_Plan.mono _ _ _
   | exact busbarref5_Objects.mono _ _
   | exact LeO.none _
   | refine LeO.ite ?_ ?_
   | refine LeO.bind ?_ (fun _ => ?_)
  ·
   intro y0 y1 y2 y3 y4 y5 y6 y7 y8 y9 y10 y11 y12 y13
   unfold busbarref12_Check.j1
   repeat' first
   | (with_reducible exact ih0 _ _ _ _ _ _ _ _ _ _ _ _ _ _)
   | (with_reducible exact ih1 _ _ _ _ _ _ _ _ _ _ _ _ _ _)
   | (with_reducible exact busbarref12_Groups.mono _ _ _)
   | (with_reducible exact busbarref12_Plan.mono _ _ _)
   | (with_reducible exact busbarref5_Objects.mono _ _)
   | (with_reducible exact LeO.refl _)
   | (with_reducible exact LeO.none _)
   | (with_reducible refine LeO.ite ?_ ?_)
   | (with_reducible refine LeO.bind ?_ (fun _ => ?_))
   | exact ih0 _ _ _ _ _ _ _ _ _ _ _ _ _ _
   | exact ih1 _ _ _ _ _ _ _ _ _ _ _ _ _ _
   | exact busbarref12_Groups.mono _ _ _
   | exact busbarref12_Plan.mono _ _ _
   | exact busbarref5_Objects.mono _ _
   | exact LeO.none _
   | refine LeO.ite ?_ ?_
   | refine LeO.bind ?_ (fun _ => ?_)
theorem busbarref12_Check.mono : ∀ a0 a1 a2 a3 a4 a5 a6 a7 a8 a9 a10 a11 a12 k, LeO (busbarref12_Check.f k a0 a1 a2 a3 a4 a5 a6 a7 a8 a9 a10 a11 a12) (busbarref12_Check.f (k + 1) a0 a1 a2 a3 a4 a5 a6 a7 a8 a9 a10 a11 a12) := by
 intro a0 a1 a2 a3 a4 a5 a6 a7 a8 a9 a10 a11 a12 k
 obtain ⟨ih0, ih1⟩ := busbarref12_Check.mono_l k
 unfold busbarref12_Check.f
 repeat' first
   | (with_reducible exact ih0 _ _ _ _ _ _ _ _ _ _ _ _ _ _)
   | (with_reducible exact ih1 _ _ _ _ _ _ _ _ _ _ _ _ _ _)
   | (with_reducible exact busbarref12_Groups.mono _ _ _)
   | (with_reducible exact busbarref12_Plan.mono _ _ _)
   | (with_reducible exact busbarref5_Objects.mono _ _)
   | (with_reducible exact LeO.refl _)
   | (with_reducible exact LeO.none _)
   | (with_reducible refine LeO.ite ?_ ?_)
   | (with_reducible refine LeO.bind ?_ (fun _ => ?_))
   | exact ih0 _ _ _ _ _ _ _ _ _ _ _ _ _ _
   | exact ih1 _ _ _ _ _ _ _ _ _ _ _ _ _ _
   | exact busbarref12_Groups.mono _ _ _
   | exact busbarref12_Plan.mono _ _ _
   | exact busbarref5_Objects.mono _ _
   | exact LeO.none _
   | refine LeO.ite ?_ ?_
   | refine LeO.bind ?_ (fun _ => ?_)
set_option maxHeartbeats 8000000 in
set_option maxRecDepth 100000 in
theorem busbarref12_Check.calls (k : Nat) (A0_0 : Option Addr) (c0_0 : Nat) (l0_0 : List (S46)) (A0_1 : Option Addr) (c0_1 : Nat) (l0_1 : List (S48)) (a0_2 : Int) (a0_3 : Int) (a0_4 : Int) (a0_5 : Int) (a0_6 : Int) (a0_7 : Int) (a0_8 : Int) (a0_9 : Int) (a0_10 : Int) (a0_11 : Int) (A0_12 : Option Addr) (c0_12 : Nat) (l0_12 : List (S50)) (r : Int) (w : World) (hr0_0 : Kd.C k46 w A0_0 l0_0.length l0_0) (hc0_0 : l0_0.length ≤ c0_0) (hr0_1 : Kd.C k48 w A0_1 l0_1.length l0_1) (hc0_1 : l0_1.length ≤ c0_1) (hr0_12 : Kd.C k50 w A0_12 l0_12.length l0_12) (hc0_12 : l0_12.length ≤ c0_12) (h : busbarref12_Check.f k l0_0 l0_1 a0_2 a0_3 a0_4 a0_5 a0_6 a0_7 a0_8 a0_9 a0_10 a0_11 l0_12 = some r) :
  Calls Try.prog 9 #[.agg #[.slice A0_0 l0_0.length c0_0, .slice A0_1 l0_1.length c0_1, .int .i64 a0_2, .int .i64 a0_3, .int .i64 a0_4, .int .i64 a0_5, .int .i64 a0_6, .int .i64 a0_7, .int .i64 a0_8, .int .i64 a0_9, .int .i64 a0_10, .int .u64 a0_11, .slice A0_12 l0_12.length c0_12]] w fun e w' => e = .returned (.int .i64 r) ∧ Below w.heap.size w w' := by
 have hu27 := Try.underlying27
 have HR0_0 := Aside0.mk hr0_0
 have HC0_0 := Aside0.mk hc0_0
 clear hr0_0 hc0_0
 have HR0_1 := Aside0.mk hr0_1
 have HC0_1 := Aside0.mk hc0_1
 clear hr0_1 hc0_1
 have HR0_12 := Aside0.mk hr0_12
 have HC0_12 := Aside0.mk hc0_12
 clear hr0_12 hc0_12
 have HB := Aside0.mk (Below.refl w.heap.size w)
 have H : (if a0_3 < 1 then (busbarref12_Check.j0 k true l0_0 l0_1 a0_2 a0_3 a0_4 a0_5 a0_6 a0_7 a0_8 a0_9 a0_10 a0_11 l0_12) else (if a0_3 > 65535 then (busbarref12_Check.j0 k true l0_0 l0_1 a0_2 a0_3 a0_4 a0_5 a0_6 a0_7 a0_8 a0_9 a0_10 a0_11 l0_12) else (if a0_4 < 1 then (busbarref12_Check.j0 k true l0_0 l0_1 a0_2 a0_3 a0_4 a0_5 a0_6 a0_7 a0_8 a0_9 a0_10 a0_11 l0_12) else (if a0_4 > 32 then (busbarref12_Check.j0 k true l0_0 l0_1 a0_2 a0_3 a0_4 a0_5 a0_6 a0_7 a0_8 a0_9 a0_10 a0_11 l0_12) else (if a0_5 < 0 then (busbarref12_Check.j0 k true l0_0 l0_1 a0_2 a0_3 a0_4 a0_5 a0_6 a0_7 a0_8 a0_9 a0_10 a0_11 l0_12) else (busbarref12_Check.j0 k (decide (a0_5 > 32)) l0_0 l0_1 a0_2 a0_3 a0_4 a0_5 a0_6 a0_7 a0_8 a0_9 a0_10 a0_11 l0_12)))))) = some r := h
 clear h
 have HC2 := Aside0.mk H
 clear H
 go_enter Try.func9, Try.ntmps9
 go_upto_region 1 with (first | ((with_reducible refine gate_dst (N := 1) rfl ?_); refine box_event ?hg (N := 1) ?hd (cs := #[.slice A0_0 l0_0.length c0_0, .slice A0_1 l0_1.length c0_1, .int .i64 a0_2, .int .i64 a0_3, .int .i64 a0_4, .int .i64 a0_5, .int .i64 a0_6, .int .i64 a0_7, .int .i64 a0_8, .int .i64 a0_9, .int .i64 a0_10, .int .u64 a0_11, .slice A0_12 l0_12.length c0_12]) (t := 27) ?hr ?_; (case hd => rfl); (case hg => rfl); (case hr => first | (go_simp; done) | (go_simp; rfl)); intro gb484 hg w3 hbox hb; have n0_ := Aside0.mk (below_step (by repeat (first | (with_reducible first | exact HB.out | apply below_alloc | apply pw_below_drewN | apply below_drew1) | exact HB.out)) hb); have n1_ := Aside0.mk (hbox); have n2_ := Aside0.mk ((by rw [hg]; exact (below_size (by repeat (first | (with_reducible first | exact HB.out | apply below_alloc | apply pw_below_drewN | apply below_drew1) | exact HB.out))) : w.heap.size ≤ gb484)); have n3_ := Aside0.mk ((by rw [hg]; exact (below_size (by repeat (first | (with_reducible first | exact HB.out | apply below_alloc | apply pw_below_drewN | apply below_drew1) | exact HB.out))) : w.heap.size ≤ gb484)); clear HB; have HB := n0_; have BK484 := n1_; have GW484 := n2_; have GE484 := n3_; clear n0_ n1_ n2_ n3_; clear hb hbox hg))
 (try simp only [Act.put, List.setIfInBounds_toArray, List.set_cons_zero, List.set_cons_succ])
 go_cut [5] (fun v5 wc => ∃ (kq : Nat) (x5_1 : Bool), v5 = .bool x5_1 ∧ Aside0 (busbarref12_Check.j0 kq x5_1 l0_0 l0_1 a0_2 a0_3 a0_4 a0_5 a0_6 a0_7 a0_8 a0_9 a0_10 a0_11 l0_12 = some r) ∧ Aside0 (kq ≤ k) ∧ Aside0 (wc.heap[gb484]? = some (.cells #[(.slice A0_0 l0_0.length c0_0), (.slice A0_1 l0_1.length c0_1), .int .i64 a0_2, .int .i64 a0_3, .int .i64 a0_4, .int .i64 a0_5, .int .i64 a0_6, .int .i64 a0_7, .int .i64 a0_8, .int .i64 a0_9, .int .i64 a0_10, .int .u64 a0_11, (.slice A0_12 l0_12.length c0_12)] 27 (0, 0))) ∧ Aside0 (Below w.heap.size w wc))
 case first =>
  have H := HC2.out
  clear HC2
  by_cases c4 : a0_3 < 1
  ·
   rw [if_pos c4] at H
   have c4b0 : decide (a0_3 < 1) = true := decide_eq_true c4
   clear c4
   (first | rw [c4b0] | (simp only [i64_w, i32_w]; rw [c4b0]) | skip)
   have H' := Aside0.mk H
   clear H
   have hcz5_0 : w3.cell? ⟨gb484, 0, none⟩ = some (.slice A0_0 l0_0.length c0_0) := (blk_cell BK484.out 0).trans rfl
   have hcz5_1 : w3.cell? ⟨gb484, 1, none⟩ = some (.slice A0_1 l0_1.length c0_1) := (blk_cell BK484.out 1).trans rfl
   have hcz5_2 : w3.cell? ⟨gb484, 2, none⟩ = some (.int .i64 a0_2) := (blk_cell BK484.out 2).trans rfl
   have hcz5_3 : w3.cell? ⟨gb484, 3, none⟩ = some (.int .i64 a0_3) := (blk_cell BK484.out 3).trans rfl
   have hcz5_4 : w3.cell? ⟨gb484, 4, none⟩ = some (.int .i64 a0_4) := (blk_cell BK484.out 4).trans rfl
   have hcz5_5 : w3.cell? ⟨gb484, 5, none⟩ = some (.int .i64 a0_5) := (blk_cell BK484.out 5).trans rfl
   have hcz5_6 : w3.cell? ⟨gb484, 6, none⟩ = some (.int .i64 a0_6) := (blk_cell BK484.out 6).trans rfl
   have hcz5_7 : w3.cell? ⟨gb484, 7, none⟩ = some (.int .i64 a0_7) := (blk_cell BK484.out 7).trans rfl
   have hcz5_8 : w3.cell? ⟨gb484, 8, none⟩ = some (.int .i64 a0_8) := (blk_cell BK484.out 8).trans rfl
   have hcz5_9 : w3.cell? ⟨gb484, 9, none⟩ = some (.int .i64 a0_9) := (blk_cell BK484.out 9).trans rfl
   have hcz5_10 : w3.cell? ⟨gb484, 10, none⟩ = some (.int .i64 a0_10) := (blk_cell BK484.out 10).trans rfl
   have hcz5_11 : w3.cell? ⟨gb484, 11, none⟩ = some (.int .u64 a0_11) := (blk_cell BK484.out 11).trans rfl
   have hcz5_12 : w3.cell? ⟨gb484, 12, none⟩ = some (.slice A0_12 l0_12.length c0_12) := (blk_cell BK484.out 12).trans rfl
   have hfz5_0 := blk_frozen BK484.out 0
   have hfz5_1 := blk_frozen BK484.out 1
   have hfz5_2 := blk_frozen BK484.out 2
   have hfz5_3 := blk_frozen BK484.out 3
   have hfz5_4 := blk_frozen BK484.out 4
   have hfz5_5 := blk_frozen BK484.out 5
   have hfz5_6 := blk_frozen BK484.out 6
   have hfz5_7 := blk_frozen BK484.out 7
   have hfz5_8 := blk_frozen BK484.out 8
   have hfz5_9 := blk_frozen BK484.out 9
   have hfz5_10 := blk_frozen BK484.out 10
   have hfz5_11 := blk_frozen BK484.out 11
   have hfz5_12 := blk_frozen BK484.out 12
   go_wp2
   go_meet
   case rel => exact ⟨_, (true), (by first | rfl | (simp; done) | (simp [*]; done)), H', ⟨by first | omega | exact Nat.le_refl _⟩, ⟨by (with_reducible repeat (first | refine blk_drewN ?_ _ | refine blk_drew ?_ | refine blk_alloc ?_ _)); exact BK484.out⟩, ⟨by repeat (first | (with_reducible first | exact HB.out | apply below_alloc | apply pw_below_drewN | apply below_drew1 | refine below_set ?_ GE484.out) | exact HB.out)⟩⟩
  ·
   rw [if_neg c4] at H
   have c4b0 : decide (a0_3 < 1) = false := decide_eq_false c4
   clear c4
   (first | rw [c4b0] | (simp only [i64_w, i32_w]; rw [c4b0]) | skip)
   by_cases c6 : a0_3 > 65535
   ·
    rw [if_pos c6] at H
    have c6b0 : decide (65535 < a0_3) = true := decide_eq_true c6
    clear c6
    have H' := Aside0.mk H
    clear H
    have hcz7_0 : w3.cell? ⟨gb484, 0, none⟩ = some (.slice A0_0 l0_0.length c0_0) := (blk_cell BK484.out 0).trans rfl
    have hcz7_1 : w3.cell? ⟨gb484, 1, none⟩ = some (.slice A0_1 l0_1.length c0_1) := (blk_cell BK484.out 1).trans rfl
    have hcz7_2 : w3.cell? ⟨gb484, 2, none⟩ = some (.int .i64 a0_2) := (blk_cell BK484.out 2).trans rfl
    have hcz7_3 : w3.cell? ⟨gb484, 3, none⟩ = some (.int .i64 a0_3) := (blk_cell BK484.out 3).trans rfl
    have hcz7_4 : w3.cell? ⟨gb484, 4, none⟩ = some (.int .i64 a0_4) := (blk_cell BK484.out 4).trans rfl
    have hcz7_5 : w3.cell? ⟨gb484, 5, none⟩ = some (.int .i64 a0_5) := (blk_cell BK484.out 5).trans rfl
    have hcz7_6 : w3.cell? ⟨gb484, 6, none⟩ = some (.int .i64 a0_6) := (blk_cell BK484.out 6).trans rfl
    have hcz7_7 : w3.cell? ⟨gb484, 7, none⟩ = some (.int .i64 a0_7) := (blk_cell BK484.out 7).trans rfl
    have hcz7_8 : w3.cell? ⟨gb484, 8, none⟩ = some (.int .i64 a0_8) := (blk_cell BK484.out 8).trans rfl
    have hcz7_9 : w3.cell? ⟨gb484, 9, none⟩ = some (.int .i64 a0_9) := (blk_cell BK484.out 9).trans rfl
    have hcz7_10 : w3.cell? ⟨gb484, 10, none⟩ = some (.int .i64 a0_10) := (blk_cell BK484.out 10).trans rfl
    have hcz7_11 : w3.cell? ⟨gb484, 11, none⟩ = some (.int .u64 a0_11) := (blk_cell BK484.out 11).trans rfl
    have hcz7_12 : w3.cell? ⟨gb484, 12, none⟩ = some (.slice A0_12 l0_12.length c0_12) := (blk_cell BK484.out 12).trans rfl
    have hfz7_0 := blk_frozen BK484.out 0
    have hfz7_1 := blk_frozen BK484.out 1
    have hfz7_2 := blk_frozen BK484.out 2
    have hfz7_3 := blk_frozen BK484.out 3
    have hfz7_4 := blk_frozen BK484.out 4
    have hfz7_5 := blk_frozen BK484.out 5
    have hfz7_6 := blk_frozen BK484.out 6
    have hfz7_7 := blk_frozen BK484.out 7
    have hfz7_8 := blk_frozen BK484.out 8
    have hfz7_9 := blk_frozen BK484.out 9
    have hfz7_10 := blk_frozen BK484.out 10
    have hfz7_11 := blk_frozen BK484.out 11
    have hfz7_12 := blk_frozen BK484.out 12
    go_wp2
    go_meet
    case rel => exact ⟨_, (true), (by first | rfl | (simp; done) | (simp [*]; done)), H', ⟨by first | omega | exact Nat.le_refl _⟩, ⟨by (with_reducible repeat (first | refine blk_drewN ?_ _ | refine blk_drew ?_ | refine blk_alloc ?_ _)); exact BK484.out⟩, ⟨by repeat (first | (with_reducible first | exact HB.out | apply below_alloc | apply pw_below_drewN | apply below_drew1 | refine below_set ?_ GE484.out) | exact HB.out)⟩⟩
   ·
    rw [if_neg c6] at H
    have c6b0 : decide (65535 < a0_3) = false := decide_eq_false c6
    clear c6
    by_cases c8 : a0_4 < 1
    ·
     rw [if_pos c8] at H
     have c8b0 : decide (a0_4 < 1) = true := decide_eq_true c8
     clear c8
     have H' := Aside0.mk H
     clear H
     have hcz9_0 : w3.cell? ⟨gb484, 0, none⟩ = some (.slice A0_0 l0_0.length c0_0) := (blk_cell BK484.out 0).trans rfl
     have hcz9_1 : w3.cell? ⟨gb484, 1, none⟩ = some (.slice A0_1 l0_1.length c0_1) := (blk_cell BK484.out 1).trans rfl
     have hcz9_2 : w3.cell? ⟨gb484, 2, none⟩ = some (.int .i64 a0_2) := (blk_cell BK484.out 2).trans rfl
     have hcz9_3 : w3.cell? ⟨gb484, 3, none⟩ = some (.int .i64 a0_3) := (blk_cell BK484.out 3).trans rfl
     have hcz9_4 : w3.cell? ⟨gb484, 4, none⟩ = some (.int .i64 a0_4) := (blk_cell BK484.out 4).trans rfl
     have hcz9_5 : w3.cell? ⟨gb484, 5, none⟩ = some (.int .i64 a0_5) := (blk_cell BK484.out 5).trans rfl
     have hcz9_6 : w3.cell? ⟨gb484, 6, none⟩ = some (.int .i64 a0_6) := (blk_cell BK484.out 6).trans rfl
     have hcz9_7 : w3.cell? ⟨gb484, 7, none⟩ = some (.int .i64 a0_7) := (blk_cell BK484.out 7).trans rfl
     have hcz9_8 : w3.cell? ⟨gb484, 8, none⟩ = some (.int .i64 a0_8) := (blk_cell BK484.out 8).trans rfl
     have hcz9_9 : w3.cell? ⟨gb484, 9, none⟩ = some (.int .i64 a0_9) := (blk_cell BK484.out 9).trans rfl
     have hcz9_10 : w3.cell? ⟨gb484, 10, none⟩ = some (.int .i64 a0_10) := (blk_cell BK484.out 10).trans rfl
     have hcz9_11 : w3.cell? ⟨gb484, 11, none⟩ = some (.int .u64 a0_11) := (blk_cell BK484.out 11).trans rfl
     have hcz9_12 : w3.cell? ⟨gb484, 12, none⟩ = some (.slice A0_12 l0_12.length c0_12) := (blk_cell BK484.out 12).trans rfl
     have hfz9_0 := blk_frozen BK484.out 0
     have hfz9_1 := blk_frozen BK484.out 1
     have hfz9_2 := blk_frozen BK484.out 2
     have hfz9_3 := blk_frozen BK484.out 3
     have hfz9_4 := blk_frozen BK484.out 4
     have hfz9_5 := blk_frozen BK484.out 5
     have hfz9_6 := blk_frozen BK484.out 6
     have hfz9_7 := blk_frozen BK484.out 7
     have hfz9_8 := blk_frozen BK484.out 8
     have hfz9_9 := blk_frozen BK484.out 9
     have hfz9_10 := blk_frozen BK484.out 10
     have hfz9_11 := blk_frozen BK484.out 11
     have hfz9_12 := blk_frozen BK484.out 12
     go_wp2
     go_meet
     case rel => exact ⟨_, (true), (by first | rfl | (simp; done) | (simp [*]; done)), H', ⟨by first | omega | exact Nat.le_refl _⟩, ⟨by (with_reducible repeat (first | refine blk_drewN ?_ _ | refine blk_drew ?_ | refine blk_alloc ?_ _)); exact BK484.out⟩, ⟨by repeat (first | (with_reducible first | exact HB.out | apply below_alloc | apply pw_below_drewN | apply below_drew1 | refine below_set ?_ GE484.out) | exact HB.out)⟩⟩
    ·
     rw [if_neg c8] at H
     have c8b0 : decide (a0_4 < 1) = false := decide_eq_false c8
     clear c8
     by_cases c10 : a0_4 > 32
     ·
      rw [if_pos c10] at H
      have c10b0 : decide (32 < a0_4) = true := decide_eq_true c10
      clear c10
      have H' := Aside0.mk H
      clear H
      have hcz11_0 : w3.cell? ⟨gb484, 0, none⟩ = some (.slice A0_0 l0_0.length c0_0) := (blk_cell BK484.out 0).trans rfl
      have hcz11_1 : w3.cell? ⟨gb484, 1, none⟩ = some (.slice A0_1 l0_1.length c0_1) := (blk_cell BK484.out 1).trans rfl
      have hcz11_2 : w3.cell? ⟨gb484, 2, none⟩ = some (.int .i64 a0_2) := (blk_cell BK484.out 2).trans rfl
      have hcz11_3 : w3.cell? ⟨gb484, 3, none⟩ = some (.int .i64 a0_3) := (blk_cell BK484.out 3).trans rfl
      have hcz11_4 : w3.cell? ⟨gb484, 4, none⟩ = some (.int .i64 a0_4) := (blk_cell BK484.out 4).trans rfl
      have hcz11_5 : w3.cell? ⟨gb484, 5, none⟩ = some (.int .i64 a0_5) := (blk_cell BK484.out 5).trans rfl
      have hcz11_6 : w3.cell? ⟨gb484, 6, none⟩ = some (.int .i64 a0_6) := (blk_cell BK484.out 6).trans rfl
      have hcz11_7 : w3.cell? ⟨gb484, 7, none⟩ = some (.int .i64 a0_7) := (blk_cell BK484.out 7).trans rfl
      have hcz11_8 : w3.cell? ⟨gb484, 8, none⟩ = some (.int .i64 a0_8) := (blk_cell BK484.out 8).trans rfl
      have hcz11_9 : w3.cell? ⟨gb484, 9, none⟩ = some (.int .i64 a0_9) := (blk_cell BK484.out 9).trans rfl
      have hcz11_10 : w3.cell? ⟨gb484, 10, none⟩ = some (.int .i64 a0_10) := (blk_cell BK484.out 10).trans rfl
      have hcz11_11 : w3.cell? ⟨gb484, 11, none⟩ = some (.int .u64 a0_11) := (blk_cell BK484.out 11).trans rfl
      have hcz11_12 : w3.cell? ⟨gb484, 12, none⟩ = some (.slice A0_12 l0_12.length c0_12) := (blk_cell BK484.out 12).trans rfl
      have hfz11_0 := blk_frozen BK484.out 0
      have hfz11_1 := blk_frozen BK484.out 1
      have hfz11_2 := blk_frozen BK484.out 2
      have hfz11_3 := blk_frozen BK484.out 3
      have hfz11_4 := blk_frozen BK484.out 4
      have hfz11_5 := blk_frozen BK484.out 5
      have hfz11_6 := blk_frozen BK484.out 6
      have hfz11_7 := blk_frozen BK484.out 7
      have hfz11_8 := blk_frozen BK484.out 8
      have hfz11_9 := blk_frozen BK484.out 9
      have hfz11_10 := blk_frozen BK484.out 10
      have hfz11_11 := blk_frozen BK484.out 11
      have hfz11_12 := blk_frozen BK484.out 12
      go_wp2
      go_meet
      case rel => exact ⟨_, (true), (by first | rfl | (simp; done) | (simp [*]; done)), H', ⟨by first | omega | exact Nat.le_refl _⟩, ⟨by (with_reducible repeat (first | refine blk_drewN ?_ _ | refine blk_drew ?_ | refine blk_alloc ?_ _)); exact BK484.out⟩, ⟨by repeat (first | (with_reducible first | exact HB.out | apply below_alloc | apply pw_below_drewN | apply below_drew1 | refine below_set ?_ GE484.out) | exact HB.out)⟩⟩
     ·
      rw [if_neg c10] at H
      have c10b0 : decide (32 < a0_4) = false := decide_eq_false c10
      clear c10
      by_cases c12 : a0_5 < 0
      ·
       rw [if_pos c12] at H
       have c12b0 : decide (a0_5 < 0) = true := decide_eq_true c12
       clear c12
       have H' := Aside0.mk H
       clear H
       have hcz13_0 : w3.cell? ⟨gb484, 0, none⟩ = some (.slice A0_0 l0_0.length c0_0) := (blk_cell BK484.out 0).trans rfl
       have hcz13_1 : w3.cell? ⟨gb484, 1, none⟩ = some (.slice A0_1 l0_1.length c0_1) := (blk_cell BK484.out 1).trans rfl
       have hcz13_2 : w3.cell? ⟨gb484, 2, none⟩ = some (.int .i64 a0_2) := (blk_cell BK484.out 2).trans rfl
       have hcz13_3 : w3.cell? ⟨gb484, 3, none⟩ = some (.int .i64 a0_3) := (blk_cell BK484.out 3).trans rfl
       have hcz13_4 : w3.cell? ⟨gb484, 4, none⟩ = some (.int .i64 a0_4) := (blk_cell BK484.out 4).trans rfl
       have hcz13_5 : w3.cell? ⟨gb484, 5, none⟩ = some (.int .i64 a0_5) := (blk_cell BK484.out 5).trans rfl
       have hcz13_6 : w3.cell? ⟨gb484, 6, none⟩ = some (.int .i64 a0_6) := (blk_cell BK484.out 6).trans rfl
       have hcz13_7 : w3.cell? ⟨gb484, 7, none⟩ = some (.int .i64 a0_7) := (blk_cell BK484.out 7).trans rfl
       have hcz13_8 : w3.cell? ⟨gb484, 8, none⟩ = some (.int .i64 a0_8) := (blk_cell BK484.out 8).trans rfl
       have hcz13_9 : w3.cell? ⟨gb484, 9, none⟩ = some (.int .i64 a0_9) := (blk_cell BK484.out 9).trans rfl
       have hcz13_10 : w3.cell? ⟨gb484, 10, none⟩ = some (.int .i64 a0_10) := (blk_cell BK484.out 10).trans rfl
       have hcz13_11 : w3.cell? ⟨gb484, 11, none⟩ = some (.int .u64 a0_11) := (blk_cell BK484.out 11).trans rfl
       have hcz13_12 : w3.cell? ⟨gb484, 12, none⟩ = some (.slice A0_12 l0_12.length c0_12) := (blk_cell BK484.out 12).trans rfl
       have hfz13_0 := blk_frozen BK484.out 0
       have hfz13_1 := blk_frozen BK484.out 1
       have hfz13_2 := blk_frozen BK484.out 2
       have hfz13_3 := blk_frozen BK484.out 3
       have hfz13_4 := blk_frozen BK484.out 4
       have hfz13_5 := blk_frozen BK484.out 5
       have hfz13_6 := blk_frozen BK484.out 6
       have hfz13_7 := blk_frozen BK484.out 7
       have hfz13_8 := blk_frozen BK484.out 8
       have hfz13_9 := blk_frozen BK484.out 9
       have hfz13_10 := blk_frozen BK484.out 10
       have hfz13_11 := blk_frozen BK484.out 11
       have hfz13_12 := blk_frozen BK484.out 12
       go_wp2
       go_meet
       case rel => exact ⟨_, (true), (by first | rfl | (simp; done) | (simp [*]; done)), H', ⟨by first | omega | exact Nat.le_refl _⟩, ⟨by (with_reducible repeat (first | refine blk_drewN ?_ _ | refine blk_drew ?_ | refine blk_alloc ?_ _)); exact BK484.out⟩, ⟨by repeat (first | (with_reducible first | exact HB.out | apply below_alloc | apply pw_below_drewN | apply below_drew1 | refine below_set ?_ GE484.out) | exact HB.out)⟩⟩
      ·
       rw [if_neg c12] at H
       have c12b0 : decide (a0_5 < 0) = false := decide_eq_false c12
       clear c12
       have H' := Aside0.mk H
       clear H
       have hcz14_0 : w3.cell? ⟨gb484, 0, none⟩ = some (.slice A0_0 l0_0.length c0_0) := (blk_cell BK484.out 0).trans rfl
       have hcz14_1 : w3.cell? ⟨gb484, 1, none⟩ = some (.slice A0_1 l0_1.length c0_1) := (blk_cell BK484.out 1).trans rfl
       have hcz14_2 : w3.cell? ⟨gb484, 2, none⟩ = some (.int .i64 a0_2) := (blk_cell BK484.out 2).trans rfl
       have hcz14_3 : w3.cell? ⟨gb484, 3, none⟩ = some (.int .i64 a0_3) := (blk_cell BK484.out 3).trans rfl
       have hcz14_4 : w3.cell? ⟨gb484, 4, none⟩ = some (.int .i64 a0_4) := (blk_cell BK484.out 4).trans rfl
       have hcz14_5 : w3.cell? ⟨gb484, 5, none⟩ = some (.int .i64 a0_5) := (blk_cell BK484.out 5).trans rfl
       have hcz14_6 : w3.cell? ⟨gb484, 6, none⟩ = some (.int .i64 a0_6) := (blk_cell BK484.out 6).trans rfl
       have hcz14_7 : w3.cell? ⟨gb484, 7, none⟩ = some (.int .i64 a0_7) := (blk_cell BK484.out 7).trans rfl
       have hcz14_8 : w3.cell? ⟨gb484, 8, none⟩ = some (.int .i64 a0_8) := (blk_cell BK484.out 8).trans rfl
       have hcz14_9 : w3.cell? ⟨gb484, 9, none⟩ = some (.int .i64 a0_9) := (blk_cell BK484.out 9).trans rfl
       have hcz14_10 : w3.cell? ⟨gb484, 10, none⟩ = some (.int .i64 a0_10) := (blk_cell BK484.out 10).trans rfl
       have hcz14_11 : w3.cell? ⟨gb484, 11, none⟩ = some (.int .u64 a0_11) := (blk_cell BK484.out 11).trans rfl
       have hcz14_12 : w3.cell? ⟨gb484, 12, none⟩ = some (.slice A0_12 l0_12.length c0_12) := (blk_cell BK484.out 12).trans rfl
       have hfz14_0 := blk_frozen BK484.out 0
       have hfz14_1 := blk_frozen BK484.out 1
       have hfz14_2 := blk_frozen BK484.out 2
       have hfz14_3 := blk_frozen BK484.out 3
       have hfz14_4 := blk_frozen BK484.out 4
       have hfz14_5 := blk_frozen BK484.out 5
       have hfz14_6 := blk_frozen BK484.out 6
       have hfz14_7 := blk_frozen BK484.out 7
       have hfz14_8 := blk_frozen BK484.out 8
       have hfz14_9 := blk_frozen BK484.out 9
       have hfz14_10 := blk_frozen BK484.out 10
       have hfz14_11 := blk_frozen BK484.out 11
       have hfz14_12 := blk_frozen BK484.out 12
       go_wp2
       go_meet
       case rel => exact ⟨_, (decide (a0_5 > 32)), (by first | rfl | (simp; done) | (simp [*]; done)), H', ⟨by first | omega | exact Nat.le_refl _⟩, ⟨by (with_reducible repeat (first | refine blk_drewN ?_ _ | refine blk_drew ?_ | refine blk_alloc ?_ _)); exact BK484.out⟩, ⟨by repeat (first | (with_reducible first | exact HB.out | apply below_alloc | apply pw_below_drewN | apply below_drew1 | refine below_set ?_ GE484.out) | exact HB.out)⟩⟩
 case rest =>
  clear HC2
  try clear c1
  try clear p2
  try clear c4
  try clear c4b0
  try clear c6
  try clear c6b0
  try clear c8
  try clear c8b0
  try clear c9
  try clear c10
  try clear c10b0
  try clear c12
  try clear c12b0
  try clear hcz11_0
  try clear hcz11_1
  try clear hcz11_10
  try clear hcz11_11
  try clear hcz11_12
  try clear hcz11_2
  try clear hcz11_3
  try clear hcz11_4
  try clear hcz11_5
  try clear hcz11_6
  try clear hcz11_7
  try clear hcz11_8
  try clear hcz11_9
  try clear hcz13_0
  try clear hcz13_1
  try clear hcz13_10
  try clear hcz13_11
  try clear hcz13_12
  try clear hcz13_2
  try clear hcz13_3
  try clear hcz13_4
  try clear hcz13_5
  try clear hcz13_6
  try clear hcz13_7
  try clear hcz13_8
  try clear hcz13_9
  try clear hcz14_0
  try clear hcz14_1
  try clear hcz14_10
  try clear hcz14_11
  try clear hcz14_12
  try clear hcz14_2
  try clear hcz14_3
  try clear hcz14_4
  try clear hcz14_5
  try clear hcz14_6
  try clear hcz14_7
  try clear hcz14_8
  try clear hcz14_9
  try clear hcz5_0
  try clear hcz5_1
  try clear hcz5_10
  try clear hcz5_11
  try clear hcz5_12
  try clear hcz5_2
  try clear hcz5_3
  try clear hcz5_4
  try clear hcz5_5
  try clear hcz5_6
  try clear hcz5_7
  try clear hcz5_8
  try clear hcz5_9
  try clear hcz7_0
  try clear hcz7_1
  try clear hcz7_10
  try clear hcz7_11
  try clear hcz7_12
  try clear hcz7_2
  try clear hcz7_3
  try clear hcz7_4
  try clear hcz7_5
  try clear hcz7_6
  try clear hcz7_7
  try clear hcz7_8
  try clear hcz7_9
  try clear hcz9_0
  try clear hcz9_1
  try clear hcz9_10
  try clear hcz9_11
  try clear hcz9_12
  try clear hcz9_2
  try clear hcz9_3
  try clear hcz9_4
  try clear hcz9_5
  try clear hcz9_6
  try clear hcz9_7
  try clear hcz9_8
  try clear hcz9_9
  try clear hfz11_0
  try clear hfz11_1
  try clear hfz11_10
  try clear hfz11_11
  try clear hfz11_12
  try clear hfz11_2
  try clear hfz11_3
  try clear hfz11_4
  try clear hfz11_5
  try clear hfz11_6
  try clear hfz11_7
  try clear hfz11_8
  try clear hfz11_9
  try clear hfz13_0
  try clear hfz13_1
  try clear hfz13_10
  try clear hfz13_11
  try clear hfz13_12
  try clear hfz13_2
  try clear hfz13_3
  try clear hfz13_4
  try clear hfz13_5
  try clear hfz13_6
  try clear hfz13_7
  try clear hfz13_8
  try clear hfz13_9
  try clear hfz14_0
  try clear hfz14_1
  try clear hfz14_10
  try clear hfz14_11
  try clear hfz14_12
  try clear hfz14_2
  try clear hfz14_3
  try clear hfz14_4
  try clear hfz14_5
  try clear hfz14_6
  try clear hfz14_7
  try clear hfz14_8
  try clear hfz14_9
  try clear hfz5_0
  try clear hfz5_1
  try clear hfz5_10
  try clear hfz5_11
  try clear hfz5_12
  try clear hfz5_2
  try clear hfz5_3
  try clear hfz5_4
  try clear hfz5_5
  try clear hfz5_6
  try clear hfz5_7
  try clear hfz5_8
  try clear hfz5_9
  try clear hfz7_0
  try clear hfz7_1
  try clear hfz7_10
  try clear hfz7_11
  try clear hfz7_12
  try clear hfz7_2
  try clear hfz7_3
  try clear hfz7_4
  try clear hfz7_5
  try clear hfz7_6
  try clear hfz7_7
  try clear hfz7_8
  try clear hfz7_9
  try clear hfz9_0
  try clear hfz9_1
  try clear hfz9_10
  try clear hfz9_11
  try clear hfz9_12
  try clear hfz9_2
  try clear hfz9_3
  try clear hfz9_4
  try clear hfz9_5
  try clear hfz9_6
  try clear hfz9_7
  try clear hfz9_8
  try clear hfz9_9
  obtain ⟨kq, x5_1, rfl, HA, HJ1, BK484, HB⟩ := hcut
  cases kq with
  | zero => exact absurd HA.out (by simp [busbarref12_Check.j0])
  | succ kj1 =>
   have H := HA.out
   clear HA
   simp only [busbarref12_Check.j0] at H
   by_cases c15 : x5_1 = true
   ·
    subst c15
    have H1 : (some 1) = some r := by rw [if_pos rfl] at H; exact H
    clear H
    have H := H1
    clear H1
    obtain rfl := Option.some.inj H
    go_wp2
    go_ret
    exact ⟨by first | rfl | (simp [errW_none, errW_some] <;> rfl) | (simp [*, errW_none, errW_some] <;> rfl), by repeat (first | (with_reducible first | exact HB.out | apply below_alloc | apply pw_below_drewN | apply below_drew1 | refine below_set ?_ GE484.out) | exact HB.out)⟩
   ·
    replace c15 := Bool.eq_false_iff.mpr c15
    subst c15
    have H1 : (if a0_6 < 0 then (busbarref12_Check.j1 kj1 true l0_0 l0_1 a0_2 a0_3 a0_4 a0_5 a0_6 a0_7 a0_8 a0_9 a0_10 a0_11 l0_12) else (if a0_6 > 1048576 then (busbarref12_Check.j1 kj1 true l0_0 l0_1 a0_2 a0_3 a0_4 a0_5 a0_6 a0_7 a0_8 a0_9 a0_10 a0_11 l0_12) else (if a0_7 < 1 then (busbarref12_Check.j1 kj1 true l0_0 l0_1 a0_2 a0_3 a0_4 a0_5 a0_6 a0_7 a0_8 a0_9 a0_10 a0_11 l0_12) else (if a0_7 > 1000 then (busbarref12_Check.j1 kj1 true l0_0 l0_1 a0_2 a0_3 a0_4 a0_5 a0_6 a0_7 a0_8 a0_9 a0_10 a0_11 l0_12) else (if a0_8 < 1 then (busbarref12_Check.j1 kj1 true l0_0 l0_1 a0_2 a0_3 a0_4 a0_5 a0_6 a0_7 a0_8 a0_9 a0_10 a0_11 l0_12) else (busbarref12_Check.j1 kj1 (decide (a0_8 > 5000)) l0_0 l0_1 a0_2 a0_3 a0_4 a0_5 a0_6 a0_7 a0_8 a0_9 a0_10 a0_11 l0_12)))))) = some r := by rw [if_neg (show ¬ (false = true) by decide)] at H; exact H
    clear H
    have H := H1
    clear H1
    have HC16 := Aside0.mk H
    clear H
    go_upto_region 3 with (fail)
    go_cut [34] (fun v34 wc => ∃ (kq : Nat) (x34_15 : Bool), v34 = .bool x34_15 ∧ Aside0 (busbarref12_Check.j1 kq x34_15 l0_0 l0_1 a0_2 a0_3 a0_4 a0_5 a0_6 a0_7 a0_8 a0_9 a0_10 a0_11 l0_12 = some r) ∧ Aside0 (kq ≤ kj1) ∧ Aside0 (wc.heap[gb484]? = some (.cells #[(.slice A0_0 l0_0.length c0_0), (.slice A0_1 l0_1.length c0_1), .int .i64 a0_2, .int .i64 a0_3, .int .i64 a0_4, .int .i64 a0_5, .int .i64 a0_6, .int .i64 a0_7, .int .i64 a0_8, .int .i64 a0_9, .int .i64 a0_10, .int .u64 a0_11, (.slice A0_12 l0_12.length c0_12)] 27 (0, 0))) ∧ Aside0 (Below w.heap.size w wc))
    case first =>
     have H := HC16.out
     clear HC16
     by_cases c17 : a0_6 < 0
     ·
      rw [if_pos c17] at H
      have c17b0 : decide (a0_6 < 0) = true := decide_eq_true c17
      clear c17
      (first | rw [c17b0] | (simp only [i64_w, i32_w]; rw [c17b0]) | skip)
      have H' := Aside0.mk H
      clear H
      have hcz18_0 : wc.cell? ⟨gb484, 0, none⟩ = some (.slice A0_0 l0_0.length c0_0) := (blk_cell BK484.out 0).trans rfl
      have hcz18_1 : wc.cell? ⟨gb484, 1, none⟩ = some (.slice A0_1 l0_1.length c0_1) := (blk_cell BK484.out 1).trans rfl
      have hcz18_2 : wc.cell? ⟨gb484, 2, none⟩ = some (.int .i64 a0_2) := (blk_cell BK484.out 2).trans rfl
      have hcz18_3 : wc.cell? ⟨gb484, 3, none⟩ = some (.int .i64 a0_3) := (blk_cell BK484.out 3).trans rfl
      have hcz18_4 : wc.cell? ⟨gb484, 4, none⟩ = some (.int .i64 a0_4) := (blk_cell BK484.out 4).trans rfl
      have hcz18_5 : wc.cell? ⟨gb484, 5, none⟩ = some (.int .i64 a0_5) := (blk_cell BK484.out 5).trans rfl
      have hcz18_6 : wc.cell? ⟨gb484, 6, none⟩ = some (.int .i64 a0_6) := (blk_cell BK484.out 6).trans rfl
      have hcz18_7 : wc.cell? ⟨gb484, 7, none⟩ = some (.int .i64 a0_7) := (blk_cell BK484.out 7).trans rfl
      have hcz18_8 : wc.cell? ⟨gb484, 8, none⟩ = some (.int .i64 a0_8) := (blk_cell BK484.out 8).trans rfl
      have hcz18_9 : wc.cell? ⟨gb484, 9, none⟩ = some (.int .i64 a0_9) := (blk_cell BK484.out 9).trans rfl
      have hcz18_10 : wc.cell? ⟨gb484, 10, none⟩ = some (.int .i64 a0_10) := (blk_cell BK484.out 10).trans rfl
      have hcz18_11 : wc.cell? ⟨gb484, 11, none⟩ = some (.int .u64 a0_11) := (blk_cell BK484.out 11).trans rfl
      have hcz18_12 : wc.cell? ⟨gb484, 12, none⟩ = some (.slice A0_12 l0_12.length c0_12) := (blk_cell BK484.out 12).trans rfl
      have hfz18_0 := blk_frozen BK484.out 0
      have hfz18_1 := blk_frozen BK484.out 1
      have hfz18_2 := blk_frozen BK484.out 2
      have hfz18_3 := blk_frozen BK484.out 3
      have hfz18_4 := blk_frozen BK484.out 4
      have hfz18_5 := blk_frozen BK484.out 5
      have hfz18_6 := blk_frozen BK484.out 6
      have hfz18_7 := blk_frozen BK484.out 7
      have hfz18_8 := blk_frozen BK484.out 8
      have hfz18_9 := blk_frozen BK484.out 9
      have hfz18_10 := blk_frozen BK484.out 10
      have hfz18_11 := blk_frozen BK484.out 11
      have hfz18_12 := blk_frozen BK484.out 12
      go_wp2
      go_meet
      case rel => exact ⟨_, (true), (by first | rfl | (simp; done) | (simp [*]; done)), H', ⟨by have := HJ1.out; first | omega | exact Nat.le_refl _⟩, ⟨by (with_reducible repeat (first | refine blk_drewN ?_ _ | refine blk_drew ?_ | refine blk_alloc ?_ _)); exact BK484.out⟩, ⟨by repeat (first | (with_reducible first | exact HB.out | apply below_alloc | apply pw_below_drewN | apply below_drew1 | refine below_set ?_ GE484.out) | exact HB.out)⟩⟩
     ·
      rw [if_neg c17] at H
      have c17b0 : decide (a0_6 < 0) = false := decide_eq_false c17
      clear c17
      (first | rw [c17b0] | (simp only [i64_w, i32_w]; rw [c17b0]) | skip)
      by_cases c19 : a0_6 > 1048576
      ·
       rw [if_pos c19] at H
       have c19b0 : decide (1048576 < a0_6) = true := decide_eq_true c19
       clear c19
       have H' := Aside0.mk H
       clear H
       have hcz20_0 : wc.cell? ⟨gb484, 0, none⟩ = some (.slice A0_0 l0_0.length c0_0) := (blk_cell BK484.out 0).trans rfl
       have hcz20_1 : wc.cell? ⟨gb484, 1, none⟩ = some (.slice A0_1 l0_1.length c0_1) := (blk_cell BK484.out 1).trans rfl
       have hcz20_2 : wc.cell? ⟨gb484, 2, none⟩ = some (.int .i64 a0_2) := (blk_cell BK484.out 2).trans rfl
       have hcz20_3 : wc.cell? ⟨gb484, 3, none⟩ = some (.int .i64 a0_3) := (blk_cell BK484.out 3).trans rfl
       have hcz20_4 : wc.cell? ⟨gb484, 4, none⟩ = some (.int .i64 a0_4) := (blk_cell BK484.out 4).trans rfl
       have hcz20_5 : wc.cell? ⟨gb484, 5, none⟩ = some (.int .i64 a0_5) := (blk_cell BK484.out 5).trans rfl
       have hcz20_6 : wc.cell? ⟨gb484, 6, none⟩ = some (.int .i64 a0_6) := (blk_cell BK484.out 6).trans rfl
       have hcz20_7 : wc.cell? ⟨gb484, 7, none⟩ = some (.int .i64 a0_7) := (blk_cell BK484.out 7).trans rfl
       have hcz20_8 : wc.cell? ⟨gb484, 8, none⟩ = some (.int .i64 a0_8) := (blk_cell BK484.out 8).trans rfl
       have hcz20_9 : wc.cell? ⟨gb484, 9, none⟩ = some (.int .i64 a0_9) := (blk_cell BK484.out 9).trans rfl
       have hcz20_10 : wc.cell? ⟨gb484, 10, none⟩ = some (.int .i64 a0_10) := (blk_cell BK484.out 10).trans rfl
       have hcz20_11 : wc.cell? ⟨gb484, 11, none⟩ = some (.int .u64 a0_11) := (blk_cell BK484.out 11).trans rfl
       have hcz20_12 : wc.cell? ⟨gb484, 12, none⟩ = some (.slice A0_12 l0_12.length c0_12) := (blk_cell BK484.out 12).trans rfl
       have hfz20_0 := blk_frozen BK484.out 0
       have hfz20_1 := blk_frozen BK484.out 1
       have hfz20_2 := blk_frozen BK484.out 2
       have hfz20_3 := blk_frozen BK484.out 3
       have hfz20_4 := blk_frozen BK484.out 4
       have hfz20_5 := blk_frozen BK484.out 5
       have hfz20_6 := blk_frozen BK484.out 6
       have hfz20_7 := blk_frozen BK484.out 7
       have hfz20_8 := blk_frozen BK484.out 8
       have hfz20_9 := blk_frozen BK484.out 9
       have hfz20_10 := blk_frozen BK484.out 10
       have hfz20_11 := blk_frozen BK484.out 11
       have hfz20_12 := blk_frozen BK484.out 12
       go_wp2
       go_meet
       case rel => exact ⟨_, (true), (by first | rfl | (simp; done) | (simp [*]; done)), H', ⟨by have := HJ1.out; first | omega | exact Nat.le_refl _⟩, ⟨by (with_reducible repeat (first | refine blk_drewN ?_ _ | refine blk_drew ?_ | refine blk_alloc ?_ _)); exact BK484.out⟩, ⟨by repeat (first | (with_reducible first | exact HB.out | apply below_alloc | apply pw_below_drewN | apply below_drew1 | refine below_set ?_ GE484.out) | exact HB.out)⟩⟩
      ·
       rw [if_neg c19] at H
       have c19b0 : decide (1048576 < a0_6) = false := decide_eq_false c19
       clear c19
       by_cases c21 : a0_7 < 1
       ·
        rw [if_pos c21] at H
        have c21b0 : decide (a0_7 < 1) = true := decide_eq_true c21
        clear c21
        have H' := Aside0.mk H
        clear H
        have hcz22_0 : wc.cell? ⟨gb484, 0, none⟩ = some (.slice A0_0 l0_0.length c0_0) := (blk_cell BK484.out 0).trans rfl
        have hcz22_1 : wc.cell? ⟨gb484, 1, none⟩ = some (.slice A0_1 l0_1.length c0_1) := (blk_cell BK484.out 1).trans rfl
        have hcz22_2 : wc.cell? ⟨gb484, 2, none⟩ = some (.int .i64 a0_2) := (blk_cell BK484.out 2).trans rfl
        have hcz22_3 : wc.cell? ⟨gb484, 3, none⟩ = some (.int .i64 a0_3) := (blk_cell BK484.out 3).trans rfl
        have hcz22_4 : wc.cell? ⟨gb484, 4, none⟩ = some (.int .i64 a0_4) := (blk_cell BK484.out 4).trans rfl
        have hcz22_5 : wc.cell? ⟨gb484, 5, none⟩ = some (.int .i64 a0_5) := (blk_cell BK484.out 5).trans rfl
        have hcz22_6 : wc.cell? ⟨gb484, 6, none⟩ = some (.int .i64 a0_6) := (blk_cell BK484.out 6).trans rfl
        have hcz22_7 : wc.cell? ⟨gb484, 7, none⟩ = some (.int .i64 a0_7) := (blk_cell BK484.out 7).trans rfl
        have hcz22_8 : wc.cell? ⟨gb484, 8, none⟩ = some (.int .i64 a0_8) := (blk_cell BK484.out 8).trans rfl
        have hcz22_9 : wc.cell? ⟨gb484, 9, none⟩ = some (.int .i64 a0_9) := (blk_cell BK484.out 9).trans rfl
        have hcz22_10 : wc.cell? ⟨gb484, 10, none⟩ = some (.int .i64 a0_10) := (blk_cell BK484.out 10).trans rfl
        have hcz22_11 : wc.cell? ⟨gb484, 11, none⟩ = some (.int .u64 a0_11) := (blk_cell BK484.out 11).trans rfl
        have hcz22_12 : wc.cell? ⟨gb484, 12, none⟩ = some (.slice A0_12 l0_12.length c0_12) := (blk_cell BK484.out 12).trans rfl
        have hfz22_0 := blk_frozen BK484.out 0
        have hfz22_1 := blk_frozen BK484.out 1
        have hfz22_2 := blk_frozen BK484.out 2
        have hfz22_3 := blk_frozen BK484.out 3
        have hfz22_4 := blk_frozen BK484.out 4
        have hfz22_5 := blk_frozen BK484.out 5
        have hfz22_6 := blk_frozen BK484.out 6
        have hfz22_7 := blk_frozen BK484.out 7
        have hfz22_8 := blk_frozen BK484.out 8
        have hfz22_9 := blk_frozen BK484.out 9
        have hfz22_10 := blk_frozen BK484.out 10
        have hfz22_11 := blk_frozen BK484.out 11
        have hfz22_12 := blk_frozen BK484.out 12
        go_wp2
        go_meet
        case rel => exact ⟨_, (true), (by first | rfl | (simp; done) | (simp [*]; done)), H', ⟨by have := HJ1.out; first | omega | exact Nat.le_refl _⟩, ⟨by (with_reducible repeat (first | refine blk_drewN ?_ _ | refine blk_drew ?_ | refine blk_alloc ?_ _)); exact BK484.out⟩, ⟨by repeat (first | (with_reducible first | exact HB.out | apply below_alloc | apply pw_below_drewN | apply below_drew1 | refine below_set ?_ GE484.out) | exact HB.out)⟩⟩
       ·
        rw [if_neg c21] at H
        have c21b0 : decide (a0_7 < 1) = false := decide_eq_false c21
        clear c21
        by_cases c23 : a0_7 > 1000
        ·
         rw [if_pos c23] at H
         have c23b0 : decide (1000 < a0_7) = true := decide_eq_true c23
         clear c23
         have H' := Aside0.mk H
         clear H
         have hcz24_0 : wc.cell? ⟨gb484, 0, none⟩ = some (.slice A0_0 l0_0.length c0_0) := (blk_cell BK484.out 0).trans rfl
         have hcz24_1 : wc.cell? ⟨gb484, 1, none⟩ = some (.slice A0_1 l0_1.length c0_1) := (blk_cell BK484.out 1).trans rfl
         have hcz24_2 : wc.cell? ⟨gb484, 2, none⟩ = some (.int .i64 a0_2) := (blk_cell BK484.out 2).trans rfl
         have hcz24_3 : wc.cell? ⟨gb484, 3, none⟩ = some (.int .i64 a0_3) := (blk_cell BK484.out 3).trans rfl
         have hcz24_4 : wc.cell? ⟨gb484, 4, none⟩ = some (.int .i64 a0_4) := (blk_cell BK484.out 4).trans rfl
         have hcz24_5 : wc.cell? ⟨gb484, 5, none⟩ = some (.int .i64 a0_5) := (blk_cell BK484.out 5).trans rfl
         have hcz24_6 : wc.cell? ⟨gb484, 6, none⟩ = some (.int .i64 a0_6) := (blk_cell BK484.out 6).trans rfl
         have hcz24_7 : wc.cell? ⟨gb484, 7, none⟩ = some (.int .i64 a0_7) := (blk_cell BK484.out 7).trans rfl
         have hcz24_8 : wc.cell? ⟨gb484, 8, none⟩ = some (.int .i64 a0_8) := (blk_cell BK484.out 8).trans rfl
         have hcz24_9 : wc.cell? ⟨gb484, 9, none⟩ = some (.int .i64 a0_9) := (blk_cell BK484.out 9).trans rfl
         have hcz24_10 : wc.cell? ⟨gb484, 10, none⟩ = some (.int .i64 a0_10) := (blk_cell BK484.out 10).trans rfl
         have hcz24_11 : wc.cell? ⟨gb484, 11, none⟩ = some (.int .u64 a0_11) := (blk_cell BK484.out 11).trans rfl
         have hcz24_12 : wc.cell? ⟨gb484, 12, none⟩ = some (.slice A0_12 l0_12.length c0_12) := (blk_cell BK484.out 12).trans rfl
         have hfz24_0 := blk_frozen BK484.out 0
         have hfz24_1 := blk_frozen BK484.out 1
         have hfz24_2 := blk_frozen BK484.out 2
         have hfz24_3 := blk_frozen BK484.out 3
         have hfz24_4 := blk_frozen BK484.out 4
         have hfz24_5 := blk_frozen BK484.out 5
         have hfz24_6 := blk_frozen BK484.out 6
         have hfz24_7 := blk_frozen BK484.out 7
         have hfz24_8 := blk_frozen BK484.out 8
         have hfz24_9 := blk_frozen BK484.out 9
         have hfz24_10 := blk_frozen BK484.out 10
         have hfz24_11 := blk_frozen BK484.out 11
         have hfz24_12 := blk_frozen BK484.out 12
         go_wp2
         go_meet
         case rel => exact ⟨_, (true), (by first | rfl | (simp; done) | (simp [*]; done)), H', ⟨by have := HJ1.out; first | omega | exact Nat.le_refl _⟩, ⟨by (with_reducible repeat (first | refine blk_drewN ?_ _ | refine blk_drew ?_ | refine blk_alloc ?_ _)); exact BK484.out⟩, ⟨by repeat (first | (with_reducible first | exact HB.out | apply below_alloc | apply pw_below_drewN | apply below_drew1 | refine below_set ?_ GE484.out) | exact HB.out)⟩⟩
        ·
         rw [if_neg c23] at H
         have c23b0 : decide (1000 < a0_7) = false := decide_eq_false c23
         clear c23
         by_cases c25 : a0_8 < 1
         ·
          rw [if_pos c25] at H
          have c25b0 : decide (a0_8 < 1) = true := decide_eq_true c25
          clear c25
          have H' := Aside0.mk H
          clear H
          have hcz26_0 : wc.cell? ⟨gb484, 0, none⟩ = some (.slice A0_0 l0_0.length c0_0) := (blk_cell BK484.out 0).trans rfl
          have hcz26_1 : wc.cell? ⟨gb484, 1, none⟩ = some (.slice A0_1 l0_1.length c0_1) := (blk_cell BK484.out 1).trans rfl
          have hcz26_2 : wc.cell? ⟨gb484, 2, none⟩ = some (.int .i64 a0_2) := (blk_cell BK484.out 2).trans rfl
          have hcz26_3 : wc.cell? ⟨gb484, 3, none⟩ = some (.int .i64 a0_3) := (blk_cell BK484.out 3).trans rfl
          have hcz26_4 : wc.cell? ⟨gb484, 4, none⟩ = some (.int .i64 a0_4) := (blk_cell BK484.out 4).trans rfl
          have hcz26_5 : wc.cell? ⟨gb484, 5, none⟩ = some (.int .i64 a0_5) := (blk_cell BK484.out 5).trans rfl
          have hcz26_6 : wc.cell? ⟨gb484, 6, none⟩ = some (.int .i64 a0_6) := (blk_cell BK484.out 6).trans rfl
          have hcz26_7 : wc.cell? ⟨gb484, 7, none⟩ = some (.int .i64 a0_7) := (blk_cell BK484.out 7).trans rfl
          have hcz26_8 : wc.cell? ⟨gb484, 8, none⟩ = some (.int .i64 a0_8) := (blk_cell BK484.out 8).trans rfl
          have hcz26_9 : wc.cell? ⟨gb484, 9, none⟩ = some (.int .i64 a0_9) := (blk_cell BK484.out 9).trans rfl
          have hcz26_10 : wc.cell? ⟨gb484, 10, none⟩ = some (.int .i64 a0_10) := (blk_cell BK484.out 10).trans rfl
          have hcz26_11 : wc.cell? ⟨gb484, 11, none⟩ = some (.int .u64 a0_11) := (blk_cell BK484.out 11).trans rfl
          have hcz26_12 : wc.cell? ⟨gb484, 12, none⟩ = some (.slice A0_12 l0_12.length c0_12) := (blk_cell BK484.out 12).trans rfl
          have hfz26_0 := blk_frozen BK484.out 0
          have hfz26_1 := blk_frozen BK484.out 1
          have hfz26_2 := blk_frozen BK484.out 2
          have hfz26_3 := blk_frozen BK484.out 3
          have hfz26_4 := blk_frozen BK484.out 4
          have hfz26_5 := blk_frozen BK484.out 5
          have hfz26_6 := blk_frozen BK484.out 6
          have hfz26_7 := blk_frozen BK484.out 7
          have hfz26_8 := blk_frozen BK484.out 8
          have hfz26_9 := blk_frozen BK484.out 9
          have hfz26_10 := blk_frozen BK484.out 10
          have hfz26_11 := blk_frozen BK484.out 11
          have hfz26_12 := blk_frozen BK484.out 12
          go_wp2
          go_meet
          case rel => exact ⟨_, (true), (by first | rfl | (simp; done) | (simp [*]; done)), H', ⟨by have := HJ1.out; first | omega | exact Nat.le_refl _⟩, ⟨by (with_reducible repeat (first | refine blk_drewN ?_ _ | refine blk_drew ?_ | refine blk_alloc ?_ _)); exact BK484.out⟩, ⟨by repeat (first | (with_reducible first | exact HB.out | apply below_alloc | apply pw_below_drewN | apply below_drew1 | refine below_set ?_ GE484.out) | exact HB.out)⟩⟩
         ·
          rw [if_neg c25] at H
          have c25b0 : decide (a0_8 < 1) = false := decide_eq_false c25
          clear c25
          have H' := Aside0.mk H
          clear H
          have hcz27_0 : wc.cell? ⟨gb484, 0, none⟩ = some (.slice A0_0 l0_0.length c0_0) := (blk_cell BK484.out 0).trans rfl
          have hcz27_1 : wc.cell? ⟨gb484, 1, none⟩ = some (.slice A0_1 l0_1.length c0_1) := (blk_cell BK484.out 1).trans rfl
          have hcz27_2 : wc.cell? ⟨gb484, 2, none⟩ = some (.int .i64 a0_2) := (blk_cell BK484.out 2).trans rfl
          have hcz27_3 : wc.cell? ⟨gb484, 3, none⟩ = some (.int .i64 a0_3) := (blk_cell BK484.out 3).trans rfl
          have hcz27_4 : wc.cell? ⟨gb484, 4, none⟩ = some (.int .i64 a0_4) := (blk_cell BK484.out 4).trans rfl
          have hcz27_5 : wc.cell? ⟨gb484, 5, none⟩ = some (.int .i64 a0_5) := (blk_cell BK484.out 5).trans rfl
          have hcz27_6 : wc.cell? ⟨gb484, 6, none⟩ = some (.int .i64 a0_6) := (blk_cell BK484.out 6).trans rfl
          have hcz27_7 : wc.cell? ⟨gb484, 7, none⟩ = some (.int .i64 a0_7) := (blk_cell BK484.out 7).trans rfl
          have hcz27_8 : wc.cell? ⟨gb484, 8, none⟩ = some (.int .i64 a0_8) := (blk_cell BK484.out 8).trans rfl
          have hcz27_9 : wc.cell? ⟨gb484, 9, none⟩ = some (.int .i64 a0_9) := (blk_cell BK484.out 9).trans rfl
          have hcz27_10 : wc.cell? ⟨gb484, 10, none⟩ = some (.int .i64 a0_10) := (blk_cell BK484.out 10).trans rfl
          have hcz27_11 : wc.cell? ⟨gb484, 11, none⟩ = some (.int .u64 a0_11) := (blk_cell BK484.out 11).trans rfl
          have hcz27_12 : wc.cell? ⟨gb484, 12, none⟩ = some (.slice A0_12 l0_12.length c0_12) := (blk_cell BK484.out 12).trans rfl
          have hfz27_0 := blk_frozen BK484.out 0
          have hfz27_1 := blk_frozen BK484.out 1
          have hfz27_2 := blk_frozen BK484.out 2
          have hfz27_3 := blk_frozen BK484.out 3
          have hfz27_4 := blk_frozen BK484.out 4
          have hfz27_5 := blk_frozen BK484.out 5
          have hfz27_6 := blk_frozen BK484.out 6
          have hfz27_7 := blk_frozen BK484.out 7
          have hfz27_8 := blk_frozen BK484.out 8
          have hfz27_9 := blk_frozen BK484.out 9
          have hfz27_10 := blk_frozen BK484.out 10
          have hfz27_11 := blk_frozen BK484.out 11
          have hfz27_12 := blk_frozen BK484.out 12
          go_wp2
          go_meet
          case rel => exact ⟨_, (decide (a0_8 > 5000)), (by first | rfl | (simp; done) | (simp [*]; done)), H', ⟨by have := HJ1.out; first | omega | exact Nat.le_refl _⟩, ⟨by (with_reducible repeat (first | refine blk_drewN ?_ _ | refine blk_drew ?_ | refine blk_alloc ?_ _)); exact BK484.out⟩, ⟨by repeat (first | (with_reducible first | exact HB.out | apply below_alloc | apply pw_below_drewN | apply below_drew1 | refine below_set ?_ GE484.out) | exact HB.out)⟩⟩
    case rest =>
     clear HC16
     try clear c1
     try clear c2
     try clear p2
     try clear c4
     try clear c4b0
     try clear c6
     try clear c6b0
     try clear c8
     try clear c8b0
     try clear c9
     try clear c10
     try clear c10b0
     try clear c12
     try clear c12b0
     try clear c15
     try clear c17
     try clear c17b0
     try clear c19
     try clear c19b0
     try clear c21
     try clear c21b0
     try clear c23
     try clear c23b0
     try clear c25
     try clear c25b0
     try clear hcz11_0
     try clear hcz11_1
     try clear hcz11_10
     try clear hcz11_11
     try clear hcz11_12
     try clear hcz11_2
     try clear hcz11_3
     try clear hcz11_4
     try clear hcz11_5
     try clear hcz11_6
     try clear hcz11_7
     try clear hcz11_8
     try clear hcz11_9
     try clear hcz13_0
     try clear hcz13_1
     try clear hcz13_10
     try clear hcz13_11
     try clear hcz13_12
     try clear hcz13_2
     try clear hcz13_3
     try clear hcz13_4
     try clear hcz13_5
     try clear hcz13_6
     try clear hcz13_7
     try clear hcz13_8
     try clear hcz13_9
     try clear hcz14_0
     try clear hcz14_1
     try clear hcz14_10
     try clear hcz14_11
     try clear hcz14_12
     try clear hcz14_2
     try clear hcz14_3
     try clear hcz14_4
     try clear hcz14_5
     try clear hcz14_6
     try clear hcz14_7
     try clear hcz14_8
     try clear hcz14_9
     try clear hcz18_0
     try clear hcz18_1
     try clear hcz18_10
     try clear hcz18_11
     try clear hcz18_12
     try clear hcz18_2
     try clear hcz18_3
     try clear hcz18_4
     try clear hcz18_5
     try clear hcz18_6
     try clear hcz18_7
     try clear hcz18_8
     try clear hcz18_9
     try clear hcz20_0
     try clear hcz20_1
     try clear hcz20_10
     try clear hcz20_11
     try clear hcz20_12
     try clear hcz20_2
     try clear hcz20_3
     try clear hcz20_4
     try clear hcz20_5
     try clear hcz20_6
     try clear hcz20_7
     try clear hcz20_8
     try clear hcz20_9
     try clear hcz22_0
     try clear hcz22_1
     try clear hcz22_10
     try clear hcz22_11
     try clear hcz22_12
     try clear hcz22_2
     try clear hcz22_3
     try clear hcz22_4
     try clear hcz22_5
     try clear hcz22_6
     try clear hcz22_7
     try clear hcz22_8
     try clear hcz22_9
     try clear hcz24_0
     try clear hcz24_1
     try clear hcz24_10
     try clear hcz24_11
     try clear hcz24_12
     try clear hcz24_2
     try clear hcz24_3
     try clear hcz24_4
     try clear hcz24_5
     try clear hcz24_6
     try clear hcz24_7
     try clear hcz24_8
     try clear hcz24_9
     try clear hcz26_0
     try clear hcz26_1
     try clear hcz26_10
     try clear hcz26_11
     try clear hcz26_12
     try clear hcz26_2
     try clear hcz26_3
     try clear hcz26_4
     try clear hcz26_5
     try clear hcz26_6
     try clear hcz26_7
     try clear hcz26_8
     try clear hcz26_9
     try clear hcz27_0
     try clear hcz27_1
     try clear hcz27_10
     try clear hcz27_11
     try clear hcz27_12
     try clear hcz27_2
     try clear hcz27_3
     try clear hcz27_4
     try clear hcz27_5
     try clear hcz27_6
     try clear hcz27_7
     try clear hcz27_8
     try clear hcz27_9
     try clear hcz5_0
     try clear hcz5_1
     try clear hcz5_10
     try clear hcz5_11
     try clear hcz5_12
     try clear hcz5_2
     try clear hcz5_3
     try clear hcz5_4
     try clear hcz5_5
     try clear hcz5_6
     try clear hcz5_7
     try clear hcz5_8
     try clear hcz5_9
     try clear hcz7_0
     try clear hcz7_1
     try clear hcz7_10
     try clear hcz7_11
     try clear hcz7_12
     try clear hcz7_2
     try clear hcz7_3
     try clear hcz7_4
     try clear hcz7_5
     try clear hcz7_6
     try clear hcz7_7
     try clear hcz7_8
     try clear hcz7_9
     try clear hcz9_0
     try clear hcz9_1
     try clear hcz9_10
     try clear hcz9_11
     try clear hcz9_12
     try clear hcz9_2
     try clear hcz9_3
     try clear hcz9_4
     try clear hcz9_5
     try clear hcz9_6
     try clear hcz9_7
     try clear hcz9_8
     try clear hcz9_9
     try clear hfz11_0
     try clear hfz11_1
     try clear hfz11_10
     try clear hfz11_11
     try clear hfz11_12
     try clear hfz11_2
     try clear hfz11_3
     try clear hfz11_4
     try clear hfz11_5
     try clear hfz11_6
     try clear hfz11_7
     try clear hfz11_8
     try clear hfz11_9
     try clear hfz13_0
     try clear hfz13_1
     try clear hfz13_10
     try clear hfz13_11
     try clear hfz13_12
     try clear hfz13_2
     try clear hfz13_3
     try clear hfz13_4
     try clear hfz13_5
     try clear hfz13_6
     try clear hfz13_7
     try clear hfz13_8
     try clear hfz13_9
     try clear hfz14_0
     try clear hfz14_1
     try clear hfz14_10
     try clear hfz14_11
     try clear hfz14_12
     try clear hfz14_2
     try clear hfz14_3
     try clear hfz14_4
     try clear hfz14_5
     try clear hfz14_6
     try clear hfz14_7
     try clear hfz14_8
     try clear hfz14_9
     try clear hfz18_0
     try clear hfz18_1
     try clear hfz18_10
     try clear hfz18_11
     try clear hfz18_12
     try clear hfz18_2
     try clear hfz18_3
     try clear hfz18_4
     try clear hfz18_5
     try clear hfz18_6
     try clear hfz18_7
     try clear hfz18_8
     try clear hfz18_9
     try clear hfz20_0
     try clear hfz20_1
     try clear hfz20_10
     try clear hfz20_11
     try clear hfz20_12
     try clear hfz20_2
     try clear hfz20_3
     try clear hfz20_4
     try clear hfz20_5
     try clear hfz20_6
     try clear hfz20_7
     try clear hfz20_8
     try clear hfz20_9
     try clear hfz22_0
     try clear hfz22_1
     try clear hfz22_10
     try clear hfz22_11
     try clear hfz22_12
     try clear hfz22_2
     try clear hfz22_3
     try clear hfz22_4
     try clear hfz22_5
     try clear hfz22_6
     try clear hfz22_7
     try clear hfz22_8
     try clear hfz22_9
     try clear hfz24_0
     try clear hfz24_1
     try clear hfz24_10
     try clear hfz24_11
     try clear hfz24_12
     try clear hfz24_2
     try clear hfz24_3
     try clear hfz24_4
     try clear hfz24_5
     try clear hfz24_6
     try clear hfz24_7
     try clear hfz24_8
     try clear hfz24_9
     try clear hfz26_0
     try clear hfz26_1
     try clear hfz26_10
     try clear hfz26_11
     try clear hfz26_12
     try clear hfz26_2
     try clear hfz26_3
     try clear hfz26_4
     try clear hfz26_5
     try clear hfz26_6
     try clear hfz26_7
     try clear hfz26_8
     try clear hfz26_9
     try clear hfz27_0
     try clear hfz27_1
     try clear hfz27_10
     try clear hfz27_11
     try clear hfz27_12
     try clear hfz27_2
     try clear hfz27_3
     try clear hfz27_4
     try clear hfz27_5
     try clear hfz27_6
     try clear hfz27_7
     try clear hfz27_8
     try clear hfz27_9
     try clear hfz5_0
     try clear hfz5_1
     try clear hfz5_10
     try clear hfz5_11
     try clear hfz5_12
     try clear hfz5_2
     try clear hfz5_3
     try clear hfz5_4
     try clear hfz5_5
     try clear hfz5_6
     try clear hfz5_7
     try clear hfz5_8
     try clear hfz5_9
     try clear hfz7_0
     try clear hfz7_1
     try clear hfz7_10
     try clear hfz7_11
     try clear hfz7_12
     try clear hfz7_2
     try clear hfz7_3
     try clear hfz7_4
     try clear hfz7_5
     try clear hfz7_6
     try clear hfz7_7
     try clear hfz7_8
     try clear hfz7_9
     try clear hfz9_0
     try clear hfz9_1
     try clear hfz9_10
     try clear hfz9_11
     try clear hfz9_12
     try clear hfz9_2
     try clear hfz9_3
     try clear hfz9_4
     try clear hfz9_5
     try clear hfz9_6
     try clear hfz9_7
     try clear hfz9_8
     try clear hfz9_9
     try clear p2
     obtain ⟨kq, x34_15, rfl, HA, HJ15, BK484, HB⟩ := hcut
     cases kq with
     | zero => exact absurd HA.out (by simp [busbarref12_Check.j1])
     | succ kj15 =>
      have H := HA.out
      clear HA
      simp only [busbarref12_Check.j1] at H
      by_cases c28 : x34_15 = true
      ·
       subst c28
       have H1 : (some 1) = some r := by rw [if_pos rfl] at H; exact H
       clear H
       have H := H1
       clear H1
       obtain rfl := Option.some.inj H
       go_wp2
       go_ret
       exact ⟨by first | rfl | (simp [errW_none, errW_some] <;> rfl) | (simp [*, errW_none, errW_some] <;> rfl), by repeat (first | (with_reducible first | exact HB.out | apply below_alloc | apply pw_below_drewN | apply below_drew1 | refine below_set ?_ GE484.out) | exact HB.out)⟩
      ·
       replace c28 := Bool.eq_false_iff.mpr c28
       subst c28
       have H1 : (if a0_9 < 260 then (some 1) else (if a0_9 > 65536 then (some 1) else (if a0_10 < 260 then (some 1) else (if a0_10 > 65536 then (some 1) else ((busbarref12_Plan.f kj15 l0_0 a0_2).bind fun t485 => (if t485 = 0 then ((busbarref12_Groups.f kj15 l0_1 l0_0).bind fun t486 => (if t486 = 0 then ((busbarref5_Objects.f kj15 l0_12).bind fun t487 => (some t487)) else (some t486))) else (some t485))))))) = some r := by rw [if_neg (show ¬ (false = true) by decide)] at H; exact H
       clear H
       have H := H1
       clear H1
       by_cases c29 : a0_9 < 260
       ·
        rw [if_pos c29] at H
        have c29b0 : decide (a0_9 < 260) = true := decide_eq_true c29
        clear c29
        obtain rfl := Option.some.inj H
        have hcz30_0 : wc.cell? ⟨gb484, 0, none⟩ = some (.slice A0_0 l0_0.length c0_0) := (blk_cell BK484.out 0).trans rfl
        have hcz30_1 : wc.cell? ⟨gb484, 1, none⟩ = some (.slice A0_1 l0_1.length c0_1) := (blk_cell BK484.out 1).trans rfl
        have hcz30_2 : wc.cell? ⟨gb484, 2, none⟩ = some (.int .i64 a0_2) := (blk_cell BK484.out 2).trans rfl
        have hcz30_3 : wc.cell? ⟨gb484, 3, none⟩ = some (.int .i64 a0_3) := (blk_cell BK484.out 3).trans rfl
        have hcz30_4 : wc.cell? ⟨gb484, 4, none⟩ = some (.int .i64 a0_4) := (blk_cell BK484.out 4).trans rfl
        have hcz30_5 : wc.cell? ⟨gb484, 5, none⟩ = some (.int .i64 a0_5) := (blk_cell BK484.out 5).trans rfl
        have hcz30_6 : wc.cell? ⟨gb484, 6, none⟩ = some (.int .i64 a0_6) := (blk_cell BK484.out 6).trans rfl
        have hcz30_7 : wc.cell? ⟨gb484, 7, none⟩ = some (.int .i64 a0_7) := (blk_cell BK484.out 7).trans rfl
        have hcz30_8 : wc.cell? ⟨gb484, 8, none⟩ = some (.int .i64 a0_8) := (blk_cell BK484.out 8).trans rfl
        have hcz30_9 : wc.cell? ⟨gb484, 9, none⟩ = some (.int .i64 a0_9) := (blk_cell BK484.out 9).trans rfl
        have hcz30_10 : wc.cell? ⟨gb484, 10, none⟩ = some (.int .i64 a0_10) := (blk_cell BK484.out 10).trans rfl
        have hcz30_11 : wc.cell? ⟨gb484, 11, none⟩ = some (.int .u64 a0_11) := (blk_cell BK484.out 11).trans rfl
        have hcz30_12 : wc.cell? ⟨gb484, 12, none⟩ = some (.slice A0_12 l0_12.length c0_12) := (blk_cell BK484.out 12).trans rfl
        have hfz30_0 := blk_frozen BK484.out 0
        have hfz30_1 := blk_frozen BK484.out 1
        have hfz30_2 := blk_frozen BK484.out 2
        have hfz30_3 := blk_frozen BK484.out 3
        have hfz30_4 := blk_frozen BK484.out 4
        have hfz30_5 := blk_frozen BK484.out 5
        have hfz30_6 := blk_frozen BK484.out 6
        have hfz30_7 := blk_frozen BK484.out 7
        have hfz30_8 := blk_frozen BK484.out 8
        have hfz30_9 := blk_frozen BK484.out 9
        have hfz30_10 := blk_frozen BK484.out 10
        have hfz30_11 := blk_frozen BK484.out 11
        have hfz30_12 := blk_frozen BK484.out 12
        go_wp2
        go_ret
        exact ⟨by first | rfl | (simp [errW_none, errW_some] <;> rfl) | (simp [*, errW_none, errW_some] <;> rfl), by repeat (first | (with_reducible first | exact HB.out | apply below_alloc | apply pw_below_drewN | apply below_drew1 | refine below_set ?_ GE484.out) | exact HB.out)⟩
       ·
        rw [if_neg c29] at H
        have c29b0 : decide (a0_9 < 260) = false := decide_eq_false c29
        clear c29
        by_cases c31 : a0_9 > 65536
        ·
         rw [if_pos c31] at H
         have c31b0 : decide (65536 < a0_9) = true := decide_eq_true c31
         clear c31
         obtain rfl := Option.some.inj H
         have hcz32_0 : wc.cell? ⟨gb484, 0, none⟩ = some (.slice A0_0 l0_0.length c0_0) := (blk_cell BK484.out 0).trans rfl
         have hcz32_1 : wc.cell? ⟨gb484, 1, none⟩ = some (.slice A0_1 l0_1.length c0_1) := (blk_cell BK484.out 1).trans rfl
         have hcz32_2 : wc.cell? ⟨gb484, 2, none⟩ = some (.int .i64 a0_2) := (blk_cell BK484.out 2).trans rfl
         have hcz32_3 : wc.cell? ⟨gb484, 3, none⟩ = some (.int .i64 a0_3) := (blk_cell BK484.out 3).trans rfl
         have hcz32_4 : wc.cell? ⟨gb484, 4, none⟩ = some (.int .i64 a0_4) := (blk_cell BK484.out 4).trans rfl
         have hcz32_5 : wc.cell? ⟨gb484, 5, none⟩ = some (.int .i64 a0_5) := (blk_cell BK484.out 5).trans rfl
         have hcz32_6 : wc.cell? ⟨gb484, 6, none⟩ = some (.int .i64 a0_6) := (blk_cell BK484.out 6).trans rfl
         have hcz32_7 : wc.cell? ⟨gb484, 7, none⟩ = some (.int .i64 a0_7) := (blk_cell BK484.out 7).trans rfl
         have hcz32_8 : wc.cell? ⟨gb484, 8, none⟩ = some (.int .i64 a0_8) := (blk_cell BK484.out 8).trans rfl
         have hcz32_9 : wc.cell? ⟨gb484, 9, none⟩ = some (.int .i64 a0_9) := (blk_cell BK484.out 9).trans rfl
         have hcz32_10 : wc.cell? ⟨gb484, 10, none⟩ = some (.int .i64 a0_10) := (blk_cell BK484.out 10).trans rfl
         have hcz32_11 : wc.cell? ⟨gb484, 11, none⟩ = some (.int .u64 a0_11) := (blk_cell BK484.out 11).trans rfl
         have hcz32_12 : wc.cell? ⟨gb484, 12, none⟩ = some (.slice A0_12 l0_12.length c0_12) := (blk_cell BK484.out 12).trans rfl
         have hfz32_0 := blk_frozen BK484.out 0
         have hfz32_1 := blk_frozen BK484.out 1
         have hfz32_2 := blk_frozen BK484.out 2
         have hfz32_3 := blk_frozen BK484.out 3
         have hfz32_4 := blk_frozen BK484.out 4
         have hfz32_5 := blk_frozen BK484.out 5
         have hfz32_6 := blk_frozen BK484.out 6
         have hfz32_7 := blk_frozen BK484.out 7
         have hfz32_8 := blk_frozen BK484.out 8
         have hfz32_9 := blk_frozen BK484.out 9
         have hfz32_10 := blk_frozen BK484.out 10
         have hfz32_11 := blk_frozen BK484.out 11
         have hfz32_12 := blk_frozen BK484.out 12
         go_wp2
         go_ret
         exact ⟨by first | rfl | (simp [errW_none, errW_some] <;> rfl) | (simp [*, errW_none, errW_some] <;> rfl), by repeat (first | (with_reducible first | exact HB.out | apply below_alloc | apply pw_below_drewN | apply below_drew1 | refine below_set ?_ GE484.out) | exact HB.out)⟩
        ·
         rw [if_neg c31] at H
         have c31b0 : decide (65536 < a0_9) = false := decide_eq_false c31
         clear c31
         by_cases c33 : a0_10 < 260
         ·
          rw [if_pos c33] at H
          have c33b0 : decide (a0_10 < 260) = true := decide_eq_true c33
          clear c33
          obtain rfl := Option.some.inj H
          have hcz34_0 : wc.cell? ⟨gb484, 0, none⟩ = some (.slice A0_0 l0_0.length c0_0) := (blk_cell BK484.out 0).trans rfl
          have hcz34_1 : wc.cell? ⟨gb484, 1, none⟩ = some (.slice A0_1 l0_1.length c0_1) := (blk_cell BK484.out 1).trans rfl
          have hcz34_2 : wc.cell? ⟨gb484, 2, none⟩ = some (.int .i64 a0_2) := (blk_cell BK484.out 2).trans rfl
          have hcz34_3 : wc.cell? ⟨gb484, 3, none⟩ = some (.int .i64 a0_3) := (blk_cell BK484.out 3).trans rfl
          have hcz34_4 : wc.cell? ⟨gb484, 4, none⟩ = some (.int .i64 a0_4) := (blk_cell BK484.out 4).trans rfl
          have hcz34_5 : wc.cell? ⟨gb484, 5, none⟩ = some (.int .i64 a0_5) := (blk_cell BK484.out 5).trans rfl
          have hcz34_6 : wc.cell? ⟨gb484, 6, none⟩ = some (.int .i64 a0_6) := (blk_cell BK484.out 6).trans rfl
          have hcz34_7 : wc.cell? ⟨gb484, 7, none⟩ = some (.int .i64 a0_7) := (blk_cell BK484.out 7).trans rfl
          have hcz34_8 : wc.cell? ⟨gb484, 8, none⟩ = some (.int .i64 a0_8) := (blk_cell BK484.out 8).trans rfl
          have hcz34_9 : wc.cell? ⟨gb484, 9, none⟩ = some (.int .i64 a0_9) := (blk_cell BK484.out 9).trans rfl
          have hcz34_10 : wc.cell? ⟨gb484, 10, none⟩ = some (.int .i64 a0_10) := (blk_cell BK484.out 10).trans rfl
          have hcz34_11 : wc.cell? ⟨gb484, 11, none⟩ = some (.int .u64 a0_11) := (blk_cell BK484.out 11).trans rfl
          have hcz34_12 : wc.cell? ⟨gb484, 12, none⟩ = some (.slice A0_12 l0_12.length c0_12) := (blk_cell BK484.out 12).trans rfl
          have hfz34_0 := blk_frozen BK484.out 0
          have hfz34_1 := blk_frozen BK484.out 1
          have hfz34_2 := blk_frozen BK484.out 2
          have hfz34_3 := blk_frozen BK484.out 3
          have hfz34_4 := blk_frozen BK484.out 4
          have hfz34_5 := blk_frozen BK484.out 5
          have hfz34_6 := blk_frozen BK484.out 6
          have hfz34_7 := blk_frozen BK484.out 7
          have hfz34_8 := blk_frozen BK484.out 8
          have hfz34_9 := blk_frozen BK484.out 9
          have hfz34_10 := blk_frozen BK484.out 10
          have hfz34_11 := blk_frozen BK484.out 11
          have hfz34_12 := blk_frozen BK484.out 12
          go_wp2
          go_ret
          exact ⟨by first | rfl | (simp [errW_none, errW_some] <;> rfl) | (simp [*, errW_none, errW_some] <;> rfl), by repeat (first | (with_reducible first | exact HB.out | apply below_alloc | apply pw_below_drewN | apply below_drew1 | refine below_set ?_ GE484.out) | exact HB.out)⟩
         ·
          rw [if_neg c33] at H
          have c33b0 : decide (a0_10 < 260) = false := decide_eq_false c33
          clear c33
          by_cases c35 : a0_10 > 65536
          ·
           rw [if_pos c35] at H
           have c35b0 : decide (65536 < a0_10) = true := decide_eq_true c35
           clear c35
           obtain rfl := Option.some.inj H
           have hcz36_0 : wc.cell? ⟨gb484, 0, none⟩ = some (.slice A0_0 l0_0.length c0_0) := (blk_cell BK484.out 0).trans rfl
           have hcz36_1 : wc.cell? ⟨gb484, 1, none⟩ = some (.slice A0_1 l0_1.length c0_1) := (blk_cell BK484.out 1).trans rfl
           have hcz36_2 : wc.cell? ⟨gb484, 2, none⟩ = some (.int .i64 a0_2) := (blk_cell BK484.out 2).trans rfl
           have hcz36_3 : wc.cell? ⟨gb484, 3, none⟩ = some (.int .i64 a0_3) := (blk_cell BK484.out 3).trans rfl
           have hcz36_4 : wc.cell? ⟨gb484, 4, none⟩ = some (.int .i64 a0_4) := (blk_cell BK484.out 4).trans rfl
           have hcz36_5 : wc.cell? ⟨gb484, 5, none⟩ = some (.int .i64 a0_5) := (blk_cell BK484.out 5).trans rfl
           have hcz36_6 : wc.cell? ⟨gb484, 6, none⟩ = some (.int .i64 a0_6) := (blk_cell BK484.out 6).trans rfl
           have hcz36_7 : wc.cell? ⟨gb484, 7, none⟩ = some (.int .i64 a0_7) := (blk_cell BK484.out 7).trans rfl
           have hcz36_8 : wc.cell? ⟨gb484, 8, none⟩ = some (.int .i64 a0_8) := (blk_cell BK484.out 8).trans rfl
           have hcz36_9 : wc.cell? ⟨gb484, 9, none⟩ = some (.int .i64 a0_9) := (blk_cell BK484.out 9).trans rfl
           have hcz36_10 : wc.cell? ⟨gb484, 10, none⟩ = some (.int .i64 a0_10) := (blk_cell BK484.out 10).trans rfl
           have hcz36_11 : wc.cell? ⟨gb484, 11, none⟩ = some (.int .u64 a0_11) := (blk_cell BK484.out 11).trans rfl
           have hcz36_12 : wc.cell? ⟨gb484, 12, none⟩ = some (.slice A0_12 l0_12.length c0_12) := (blk_cell BK484.out 12).trans rfl
           have hfz36_0 := blk_frozen BK484.out 0
           have hfz36_1 := blk_frozen BK484.out 1
           have hfz36_2 := blk_frozen BK484.out 2
           have hfz36_3 := blk_frozen BK484.out 3
           have hfz36_4 := blk_frozen BK484.out 4
           have hfz36_5 := blk_frozen BK484.out 5
           have hfz36_6 := blk_frozen BK484.out 6
           have hfz36_7 := blk_frozen BK484.out 7
           have hfz36_8 := blk_frozen BK484.out 8
           have hfz36_9 := blk_frozen BK484.out 9
           have hfz36_10 := blk_frozen BK484.out 10
           have hfz36_11 := blk_frozen BK484.out 11
           have hfz36_12 := blk_frozen BK484.out 12
           go_wp2
           go_ret
           exact ⟨by first | rfl | (simp [errW_none, errW_some] <;> rfl) | (simp [*, errW_none, errW_some] <;> rfl), by repeat (first | (with_reducible first | exact HB.out | apply below_alloc | apply pw_below_drewN | apply below_drew1 | refine below_set ?_ GE484.out) | exact HB.out)⟩
          ·
           rw [if_neg c35] at H
           have c35b0 : decide (65536 < a0_10) = false := decide_eq_false c35
           clear c35
           replace H := Option.bind_eq_some_iff.mp H
           obtain ⟨t485, A370, H⟩ := H
           replace H : (if t485 = 0 then ((busbarref12_Groups.f kj15 l0_1 l0_0).bind fun t486 => (if t486 = 0 then ((busbarref5_Objects.f kj15 l0_12).bind fun t487 => (some t487)) else (some t486))) else (some t485)) = some r := H
           have A37 := Aside0.mk A370
           clear A370
           by_cases c38 : t485 = 0
           ·
            rw [if_pos c38] at H
            have c38b0 : (t485 == 0) = true := beq_iff_eq.mpr c38
            have c38b1 : (t485 != 0) = false := bne_eq_false_iff_eq.mpr c38
            clear c38
            replace H := Option.bind_eq_some_iff.mp H
            obtain ⟨t486, A390, H⟩ := H
            replace H : (if t486 = 0 then ((busbarref5_Objects.f kj15 l0_12).bind fun t487 => (some t487)) else (some t486)) = some r := H
            have A39 := Aside0.mk A390
            clear A390
            by_cases c40 : t486 = 0
            ·
             rw [if_pos c40] at H
             have c40b0 : (t486 == 0) = true := beq_iff_eq.mpr c40
             have c40b1 : (t486 != 0) = false := bne_eq_false_iff_eq.mpr c40
             clear c40
             replace H := Option.bind_eq_some_iff.mp H
             obtain ⟨t487, A410, H⟩ := H
             replace H : (some t487) = some r := H
             have A41 := Aside0.mk A410
             clear A410
             obtain rfl := Option.some.inj H
             have hcz42_0 : wc.cell? ⟨gb484, 0, none⟩ = some (.slice A0_0 l0_0.length c0_0) := (blk_cell BK484.out 0).trans rfl
             have hcz42_1 : wc.cell? ⟨gb484, 1, none⟩ = some (.slice A0_1 l0_1.length c0_1) := (blk_cell BK484.out 1).trans rfl
             have hcz42_2 : wc.cell? ⟨gb484, 2, none⟩ = some (.int .i64 a0_2) := (blk_cell BK484.out 2).trans rfl
             have hcz42_3 : wc.cell? ⟨gb484, 3, none⟩ = some (.int .i64 a0_3) := (blk_cell BK484.out 3).trans rfl
             have hcz42_4 : wc.cell? ⟨gb484, 4, none⟩ = some (.int .i64 a0_4) := (blk_cell BK484.out 4).trans rfl
             have hcz42_5 : wc.cell? ⟨gb484, 5, none⟩ = some (.int .i64 a0_5) := (blk_cell BK484.out 5).trans rfl
             have hcz42_6 : wc.cell? ⟨gb484, 6, none⟩ = some (.int .i64 a0_6) := (blk_cell BK484.out 6).trans rfl
             have hcz42_7 : wc.cell? ⟨gb484, 7, none⟩ = some (.int .i64 a0_7) := (blk_cell BK484.out 7).trans rfl
             have hcz42_8 : wc.cell? ⟨gb484, 8, none⟩ = some (.int .i64 a0_8) := (blk_cell BK484.out 8).trans rfl
             have hcz42_9 : wc.cell? ⟨gb484, 9, none⟩ = some (.int .i64 a0_9) := (blk_cell BK484.out 9).trans rfl
             have hcz42_10 : wc.cell? ⟨gb484, 10, none⟩ = some (.int .i64 a0_10) := (blk_cell BK484.out 10).trans rfl
             have hcz42_11 : wc.cell? ⟨gb484, 11, none⟩ = some (.int .u64 a0_11) := (blk_cell BK484.out 11).trans rfl
             have hcz42_12 : wc.cell? ⟨gb484, 12, none⟩ = some (.slice A0_12 l0_12.length c0_12) := (blk_cell BK484.out 12).trans rfl
             have hfz42_0 := blk_frozen BK484.out 0
             have hfz42_1 := blk_frozen BK484.out 1
             have hfz42_2 := blk_frozen BK484.out 2
             have hfz42_3 := blk_frozen BK484.out 3
             have hfz42_4 := blk_frozen BK484.out 4
             have hfz42_5 := blk_frozen BK484.out 5
             have hfz42_6 := blk_frozen BK484.out 6
             have hfz42_7 := blk_frozen BK484.out 7
             have hfz42_8 := blk_frozen BK484.out 8
             have hfz42_9 := blk_frozen BK484.out 9
             have hfz42_10 := blk_frozen BK484.out 10
             have hfz42_11 := blk_frozen BK484.out 11
             have hfz42_12 := blk_frozen BK484.out 12
             go_wp2_with (first | ((with_reducible refine gate_callee (f := 23) rfl ?_); refine goesL_ (some 86) rfl rfl Try.func23 (by kernel_rfl) rfl #[.slice A0_0 l0_0.length c0_0, .int .i64 a0_2] rfl (by (try simp only [List.map_toArray, List.map_cons, List.map_nil]); first | done | rfl | (simp only [List.length_drop, List.length_take]; rfl)) ?_; (with_reducible refine (busbarref12_Plan.calls kj15 _ _ l0_0 a0_2 t485 _ ?side1 ?side2 A37.out).mono ?_); (case side1 => repeat (first | exact (Kd.C_below HR0_0.out HB.out) | (with_reducible refine Kd.C_alloc ?_ _) | (with_reducible refine Kd.C_drewN ?_ _) | (with_reducible refine Kd.C_drew ?_))); (case side2 => exact HC0_0.out); rintro e w43 ⟨rfl, hb⟩; refine ⟨_, rfl, ?_⟩; have n0_ := Aside0.mk (blk_below (g := gb484) (o := .cells #[.slice A0_0 l0_0.length c0_0, .slice A0_1 l0_1.length c0_1, .int .i64 a0_2, .int .i64 a0_3, .int .i64 a0_4, .int .i64 a0_5, .int .i64 a0_6, .int .i64 a0_7, .int .i64 a0_8, .int .i64 a0_9, .int .i64 a0_10, .int .u64 a0_11, .slice A0_12 l0_12.length c0_12] 27 (0, 0)) (by (with_reducible repeat (first | refine blk_drewN ?_ _ | refine blk_drew ?_ | refine blk_alloc ?_ _)); exact BK484.out) hb); have n1_ := Aside0.mk (below_step (by repeat (first | (with_reducible first | exact HB.out | apply below_alloc | apply pw_below_drewN | apply below_drew1 | refine below_set ?_ GE484.out) | exact HB.out)) hb); clear BK484; clear HB; have BK484 := n0_; have HB := n1_; clear n0_ n1_; (try clear hb); (try clear hb2); (try clear hk); (try clear hi); have hcz44_0 : w43.cell? ⟨gb484, 0, none⟩ = some (.slice A0_0 l0_0.length c0_0) := (blk_cell BK484.out 0).trans rfl; have hcz44_1 : w43.cell? ⟨gb484, 1, none⟩ = some (.slice A0_1 l0_1.length c0_1) := (blk_cell BK484.out 1).trans rfl; have hcz44_2 : w43.cell? ⟨gb484, 2, none⟩ = some (.int .i64 a0_2) := (blk_cell BK484.out 2).trans rfl; have hcz44_3 : w43.cell? ⟨gb484, 3, none⟩ = some (.int .i64 a0_3) := (blk_cell BK484.out 3).trans rfl; have hcz44_4 : w43.cell? ⟨gb484, 4, none⟩ = some (.int .i64 a0_4) := (blk_cell BK484.out 4).trans rfl; have hcz44_5 : w43.cell? ⟨gb484, 5, none⟩ = some (.int .i64 a0_5) := (blk_cell BK484.out 5).trans rfl; have hcz44_6 : w43.cell? ⟨gb484, 6, none⟩ = some (.int .i64 a0_6) := (blk_cell BK484.out 6).trans rfl; have hcz44_7 : w43.cell? ⟨gb484, 7, none⟩ = some (.int .i64 a0_7) := (blk_cell BK484.out 7).trans rfl; have hcz44_8 : w43.cell? ⟨gb484, 8, none⟩ = some (.int .i64 a0_8) := (blk_cell BK484.out 8).trans rfl; have hcz44_9 : w43.cell? ⟨gb484, 9, none⟩ = some (.int .i64 a0_9) := (blk_cell BK484.out 9).trans rfl; have hcz44_10 : w43.cell? ⟨gb484, 10, none⟩ = some (.int .i64 a0_10) := (blk_cell BK484.out 10).trans rfl; have hcz44_11 : w43.cell? ⟨gb484, 11, none⟩ = some (.int .u64 a0_11) := (blk_cell BK484.out 11).trans rfl; have hcz44_12 : w43.cell? ⟨gb484, 12, none⟩ = some (.slice A0_12 l0_12.length c0_12) := (blk_cell BK484.out 12).trans rfl; have hfz44_0 := blk_frozen BK484.out 0; have hfz44_1 := blk_frozen BK484.out 1; have hfz44_2 := blk_frozen BK484.out 2; have hfz44_3 := blk_frozen BK484.out 3; have hfz44_4 := blk_frozen BK484.out 4; have hfz44_5 := blk_frozen BK484.out 5; have hfz44_6 := blk_frozen BK484.out 6; have hfz44_7 := blk_frozen BK484.out 7; have hfz44_8 := blk_frozen BK484.out 8; have hfz44_9 := blk_frozen BK484.out 9; have hfz44_10 := blk_frozen BK484.out 10; have hfz44_11 := blk_frozen BK484.out 11; have hfz44_12 := blk_frozen BK484.out 12) | ((with_reducible refine gate_callee (f := 24) rfl ?_); refine goesL_ (some 94) rfl rfl Try.func24 (by kernel_rfl) rfl #[.slice A0_1 l0_1.length c0_1, .slice A0_0 l0_0.length c0_0] rfl (by (try simp only [List.map_toArray, List.map_cons, List.map_nil]); first | done | rfl | (simp only [List.length_drop, List.length_take]; rfl)) ?_; (with_reducible refine (busbarref12_Groups.calls kj15 _ _ l0_1 _ _ l0_0 t486 _ ?side1 ?side2 ?side3 ?side4 A39.out).mono ?_); (case side1 => repeat (first | exact (Kd.C_below HR0_1.out HB.out) | (with_reducible refine Kd.C_alloc ?_ _) | (with_reducible refine Kd.C_drewN ?_ _) | (with_reducible refine Kd.C_drew ?_))); (case side2 => exact HC0_1.out); (case side3 => repeat (first | exact (Kd.C_below HR0_0.out HB.out) | (with_reducible refine Kd.C_alloc ?_ _) | (with_reducible refine Kd.C_drewN ?_ _) | (with_reducible refine Kd.C_drew ?_))); (case side4 => exact HC0_0.out); rintro e w45 ⟨rfl, hb⟩; refine ⟨_, rfl, ?_⟩; have n0_ := Aside0.mk (blk_below (g := gb484) (o := .cells #[.slice A0_0 l0_0.length c0_0, .slice A0_1 l0_1.length c0_1, .int .i64 a0_2, .int .i64 a0_3, .int .i64 a0_4, .int .i64 a0_5, .int .i64 a0_6, .int .i64 a0_7, .int .i64 a0_8, .int .i64 a0_9, .int .i64 a0_10, .int .u64 a0_11, .slice A0_12 l0_12.length c0_12] 27 (0, 0)) (by (with_reducible repeat (first | refine blk_drewN ?_ _ | refine blk_drew ?_ | refine blk_alloc ?_ _)); exact BK484.out) hb); have n1_ := Aside0.mk (below_step (by repeat (first | (with_reducible first | exact HB.out | apply below_alloc | apply pw_below_drewN | apply below_drew1 | refine below_set ?_ GE484.out) | exact HB.out)) hb); clear BK484; clear HB; have BK484 := n0_; have HB := n1_; clear n0_ n1_; (try clear hb); (try clear hb2); (try clear hk); (try clear hi); have hcz46_0 : w45.cell? ⟨gb484, 0, none⟩ = some (.slice A0_0 l0_0.length c0_0) := (blk_cell BK484.out 0).trans rfl; have hcz46_1 : w45.cell? ⟨gb484, 1, none⟩ = some (.slice A0_1 l0_1.length c0_1) := (blk_cell BK484.out 1).trans rfl; have hcz46_2 : w45.cell? ⟨gb484, 2, none⟩ = some (.int .i64 a0_2) := (blk_cell BK484.out 2).trans rfl; have hcz46_3 : w45.cell? ⟨gb484, 3, none⟩ = some (.int .i64 a0_3) := (blk_cell BK484.out 3).trans rfl; have hcz46_4 : w45.cell? ⟨gb484, 4, none⟩ = some (.int .i64 a0_4) := (blk_cell BK484.out 4).trans rfl; have hcz46_5 : w45.cell? ⟨gb484, 5, none⟩ = some (.int .i64 a0_5) := (blk_cell BK484.out 5).trans rfl; have hcz46_6 : w45.cell? ⟨gb484, 6, none⟩ = some (.int .i64 a0_6) := (blk_cell BK484.out 6).trans rfl; have hcz46_7 : w45.cell? ⟨gb484, 7, none⟩ = some (.int .i64 a0_7) := (blk_cell BK484.out 7).trans rfl; have hcz46_8 : w45.cell? ⟨gb484, 8, none⟩ = some (.int .i64 a0_8) := (blk_cell BK484.out 8).trans rfl; have hcz46_9 : w45.cell? ⟨gb484, 9, none⟩ = some (.int .i64 a0_9) := (blk_cell BK484.out 9).trans rfl; have hcz46_10 : w45.cell? ⟨gb484, 10, none⟩ = some (.int .i64 a0_10) := (blk_cell BK484.out 10).trans rfl; have hcz46_11 : w45.cell? ⟨gb484, 11, none⟩ = some (.int .u64 a0_11) := (blk_cell BK484.out 11).trans rfl; have hcz46_12 : w45.cell? ⟨gb484, 12, none⟩ = some (.slice A0_12 l0_12.length c0_12) := (blk_cell BK484.out 12).trans rfl; have hfz46_0 := blk_frozen BK484.out 0; have hfz46_1 := blk_frozen BK484.out 1; have hfz46_2 := blk_frozen BK484.out 2; have hfz46_3 := blk_frozen BK484.out 3; have hfz46_4 := blk_frozen BK484.out 4; have hfz46_5 := blk_frozen BK484.out 5; have hfz46_6 := blk_frozen BK484.out 6; have hfz46_7 := blk_frozen BK484.out 7; have hfz46_8 := blk_frozen BK484.out 8; have hfz46_9 := blk_frozen BK484.out 9; have hfz46_10 := blk_frozen BK484.out 10; have hfz46_11 := blk_frozen BK484.out 11; have hfz46_12 := blk_frozen BK484.out 12) | ((with_reducible refine gate_callee (f := 25) rfl ?_); refine goesL_ (some 100) rfl rfl Try.func25 (by kernel_rfl) rfl #[.slice A0_12 l0_12.length c0_12] rfl (by (try simp only [List.map_toArray, List.map_cons, List.map_nil]); first | done | rfl | (simp only [List.length_drop, List.length_take]; rfl)) ?_; (with_reducible refine (busbarref5_Objects.calls kj15 _ _ l0_12 t487 _ ?side1 ?side2 A41.out).mono ?_); (case side1 => repeat (first | exact (Kd.C_below HR0_12.out HB.out) | (with_reducible refine Kd.C_alloc ?_ _) | (with_reducible refine Kd.C_drewN ?_ _) | (with_reducible refine Kd.C_drew ?_))); (case side2 => exact HC0_12.out); rintro e w' ⟨rfl, ⟨nd, rfl⟩⟩; refine ⟨_, rfl, ?_⟩))
             go_ret
             exact ⟨by first | rfl | (simp [errW_none, errW_some] <;> rfl) | (simp [*, errW_none, errW_some] <;> rfl), by repeat (first | (with_reducible first | exact HB.out | apply below_alloc | apply pw_below_drewN | apply below_drew1 | refine below_set ?_ GE484.out) | exact HB.out)⟩
            ·
             rw [if_neg c40] at H
             have c40b0 : (t486 == 0) = false := beq_eq_false_iff_ne.mpr c40
             have c40b1 : (t486 != 0) = true := bne_iff_ne.mpr c40
             obtain rfl := Option.some.inj H
             have hcz47_0 : wc.cell? ⟨gb484, 0, none⟩ = some (.slice A0_0 l0_0.length c0_0) := (blk_cell BK484.out 0).trans rfl
             have hcz47_1 : wc.cell? ⟨gb484, 1, none⟩ = some (.slice A0_1 l0_1.length c0_1) := (blk_cell BK484.out 1).trans rfl
             have hcz47_2 : wc.cell? ⟨gb484, 2, none⟩ = some (.int .i64 a0_2) := (blk_cell BK484.out 2).trans rfl
             have hcz47_3 : wc.cell? ⟨gb484, 3, none⟩ = some (.int .i64 a0_3) := (blk_cell BK484.out 3).trans rfl
             have hcz47_4 : wc.cell? ⟨gb484, 4, none⟩ = some (.int .i64 a0_4) := (blk_cell BK484.out 4).trans rfl
             have hcz47_5 : wc.cell? ⟨gb484, 5, none⟩ = some (.int .i64 a0_5) := (blk_cell BK484.out 5).trans rfl
             have hcz47_6 : wc.cell? ⟨gb484, 6, none⟩ = some (.int .i64 a0_6) := (blk_cell BK484.out 6).trans rfl
             have hcz47_7 : wc.cell? ⟨gb484, 7, none⟩ = some (.int .i64 a0_7) := (blk_cell BK484.out 7).trans rfl
             have hcz47_8 : wc.cell? ⟨gb484, 8, none⟩ = some (.int .i64 a0_8) := (blk_cell BK484.out 8).trans rfl
             have hcz47_9 : wc.cell? ⟨gb484, 9, none⟩ = some (.int .i64 a0_9) := (blk_cell BK484.out 9).trans rfl
             have hcz47_10 : wc.cell? ⟨gb484, 10, none⟩ = some (.int .i64 a0_10) := (blk_cell BK484.out 10).trans rfl
             have hcz47_11 : wc.cell? ⟨gb484, 11, none⟩ = some (.int .u64 a0_11) := (blk_cell BK484.out 11).trans rfl
             have hcz47_12 : wc.cell? ⟨gb484, 12, none⟩ = some (.slice A0_12 l0_12.length c0_12) := (blk_cell BK484.out 12).trans rfl
             have hfz47_0 := blk_frozen BK484.out 0
             have hfz47_1 := blk_frozen BK484.out 1
             have hfz47_2 := blk_frozen BK484.out 2
             have hfz47_3 := blk_frozen BK484.out 3
             have hfz47_4 := blk_frozen BK484.out 4
             have hfz47_5 := blk_frozen BK484.out 5
             have hfz47_6 := blk_frozen BK484.out 6
             have hfz47_7 := blk_frozen BK484.out 7
             have hfz47_8 := blk_frozen BK484.out 8
             have hfz47_9 := blk_frozen BK484.out 9
             have hfz47_10 := blk_frozen BK484.out 10
             have hfz47_11 := blk_frozen BK484.out 11
             have hfz47_12 := blk_frozen BK484.out 12
             go_wp2_with (first | ((with_reducible refine gate_callee (f := 23) rfl ?_); refine goesL_ (some 86) rfl rfl Try.func23 (by kernel_rfl) rfl #[.slice A0_0 l0_0.length c0_0, .int .i64 a0_2] rfl (by (try simp only [List.map_toArray, List.map_cons, List.map_nil]); first | done | rfl | (simp only [List.length_drop, List.length_take]; rfl)) ?_; (with_reducible refine (busbarref12_Plan.calls kj15 _ _ l0_0 a0_2 t485 _ ?side1 ?side2 A37.out).mono ?_); (case side1 => repeat (first | exact (Kd.C_below HR0_0.out HB.out) | (with_reducible refine Kd.C_alloc ?_ _) | (with_reducible refine Kd.C_drewN ?_ _) | (with_reducible refine Kd.C_drew ?_))); (case side2 => exact HC0_0.out); rintro e w48 ⟨rfl, hb⟩; refine ⟨_, rfl, ?_⟩; have n0_ := Aside0.mk (blk_below (g := gb484) (o := .cells #[.slice A0_0 l0_0.length c0_0, .slice A0_1 l0_1.length c0_1, .int .i64 a0_2, .int .i64 a0_3, .int .i64 a0_4, .int .i64 a0_5, .int .i64 a0_6, .int .i64 a0_7, .int .i64 a0_8, .int .i64 a0_9, .int .i64 a0_10, .int .u64 a0_11, .slice A0_12 l0_12.length c0_12] 27 (0, 0)) (by (with_reducible repeat (first | refine blk_drewN ?_ _ | refine blk_drew ?_ | refine blk_alloc ?_ _)); exact BK484.out) hb); have n1_ := Aside0.mk (below_step (by repeat (first | (with_reducible first | exact HB.out | apply below_alloc | apply pw_below_drewN | apply below_drew1 | refine below_set ?_ GE484.out) | exact HB.out)) hb); clear BK484; clear HB; have BK484 := n0_; have HB := n1_; clear n0_ n1_; (try clear hb); (try clear hb2); (try clear hk); (try clear hi); have hcz49_0 : w48.cell? ⟨gb484, 0, none⟩ = some (.slice A0_0 l0_0.length c0_0) := (blk_cell BK484.out 0).trans rfl; have hcz49_1 : w48.cell? ⟨gb484, 1, none⟩ = some (.slice A0_1 l0_1.length c0_1) := (blk_cell BK484.out 1).trans rfl; have hcz49_2 : w48.cell? ⟨gb484, 2, none⟩ = some (.int .i64 a0_2) := (blk_cell BK484.out 2).trans rfl; have hcz49_3 : w48.cell? ⟨gb484, 3, none⟩ = some (.int .i64 a0_3) := (blk_cell BK484.out 3).trans rfl; have hcz49_4 : w48.cell? ⟨gb484, 4, none⟩ = some (.int .i64 a0_4) := (blk_cell BK484.out 4).trans rfl; have hcz49_5 : w48.cell? ⟨gb484, 5, none⟩ = some (.int .i64 a0_5) := (blk_cell BK484.out 5).trans rfl; have hcz49_6 : w48.cell? ⟨gb484, 6, none⟩ = some (.int .i64 a0_6) := (blk_cell BK484.out 6).trans rfl; have hcz49_7 : w48.cell? ⟨gb484, 7, none⟩ = some (.int .i64 a0_7) := (blk_cell BK484.out 7).trans rfl; have hcz49_8 : w48.cell? ⟨gb484, 8, none⟩ = some (.int .i64 a0_8) := (blk_cell BK484.out 8).trans rfl; have hcz49_9 : w48.cell? ⟨gb484, 9, none⟩ = some (.int .i64 a0_9) := (blk_cell BK484.out 9).trans rfl; have hcz49_10 : w48.cell? ⟨gb484, 10, none⟩ = some (.int .i64 a0_10) := (blk_cell BK484.out 10).trans rfl; have hcz49_11 : w48.cell? ⟨gb484, 11, none⟩ = some (.int .u64 a0_11) := (blk_cell BK484.out 11).trans rfl; have hcz49_12 : w48.cell? ⟨gb484, 12, none⟩ = some (.slice A0_12 l0_12.length c0_12) := (blk_cell BK484.out 12).trans rfl; have hfz49_0 := blk_frozen BK484.out 0; have hfz49_1 := blk_frozen BK484.out 1; have hfz49_2 := blk_frozen BK484.out 2; have hfz49_3 := blk_frozen BK484.out 3; have hfz49_4 := blk_frozen BK484.out 4; have hfz49_5 := blk_frozen BK484.out 5; have hfz49_6 := blk_frozen BK484.out 6; have hfz49_7 := blk_frozen BK484.out 7; have hfz49_8 := blk_frozen BK484.out 8; have hfz49_9 := blk_frozen BK484.out 9; have hfz49_10 := blk_frozen BK484.out 10; have hfz49_11 := blk_frozen BK484.out 11; have hfz49_12 := blk_frozen BK484.out 12) | ((with_reducible refine gate_callee (f := 24) rfl ?_); refine goesL_ (some 94) rfl rfl Try.func24 (by kernel_rfl) rfl #[.slice A0_1 l0_1.length c0_1, .slice A0_0 l0_0.length c0_0] rfl (by (try simp only [List.map_toArray, List.map_cons, List.map_nil]); first | done | rfl | (simp only [List.length_drop, List.length_take]; rfl)) ?_; (with_reducible refine (busbarref12_Groups.calls kj15 _ _ l0_1 _ _ l0_0 t486 _ ?side1 ?side2 ?side3 ?side4 A39.out).mono ?_); (case side1 => repeat (first | exact (Kd.C_below HR0_1.out HB.out) | (with_reducible refine Kd.C_alloc ?_ _) | (with_reducible refine Kd.C_drewN ?_ _) | (with_reducible refine Kd.C_drew ?_))); (case side2 => exact HC0_1.out); (case side3 => repeat (first | exact (Kd.C_below HR0_0.out HB.out) | (with_reducible refine Kd.C_alloc ?_ _) | (with_reducible refine Kd.C_drewN ?_ _) | (with_reducible refine Kd.C_drew ?_))); (case side4 => exact HC0_0.out); rintro e w50 ⟨rfl, hb⟩; refine ⟨_, rfl, ?_⟩; have n0_ := Aside0.mk (blk_below (g := gb484) (o := .cells #[.slice A0_0 l0_0.length c0_0, .slice A0_1 l0_1.length c0_1, .int .i64 a0_2, .int .i64 a0_3, .int .i64 a0_4, .int .i64 a0_5, .int .i64 a0_6, .int .i64 a0_7, .int .i64 a0_8, .int .i64 a0_9, .int .i64 a0_10, .int .u64 a0_11, .slice A0_12 l0_12.length c0_12] 27 (0, 0)) (by (with_reducible repeat (first | refine blk_drewN ?_ _ | refine blk_drew ?_ | refine blk_alloc ?_ _)); exact BK484.out) hb); have n1_ := Aside0.mk (below_step (by repeat (first | (with_reducible first | exact HB.out | apply below_alloc | apply pw_below_drewN | apply below_drew1 | refine below_set ?_ GE484.out) | exact HB.out)) hb); clear BK484; clear HB; have BK484 := n0_; have HB := n1_; clear n0_ n1_; (try clear hb); (try clear hb2); (try clear hk); (try clear hi)))
             go_ret
             exact ⟨by first | rfl | (simp [errW_none, errW_some] <;> rfl) | (simp [*, errW_none, errW_some] <;> rfl), by repeat (first | (with_reducible first | exact HB.out | apply below_alloc | apply pw_below_drewN | apply below_drew1 | refine below_set ?_ GE484.out) | exact HB.out)⟩
           ·
            rw [if_neg c38] at H
            have c38b0 : (t485 == 0) = false := beq_eq_false_iff_ne.mpr c38
            have c38b1 : (t485 != 0) = true := bne_iff_ne.mpr c38
            obtain rfl := Option.some.inj H
            have hcz51_0 : wc.cell? ⟨gb484, 0, none⟩ = some (.slice A0_0 l0_0.length c0_0) := (blk_cell BK484.out 0).trans rfl
            have hcz51_1 : wc.cell? ⟨gb484, 1, none⟩ = some (.slice A0_1 l0_1.length c0_1) := (blk_cell BK484.out 1).trans rfl
            have hcz51_2 : wc.cell? ⟨gb484, 2, none⟩ = some (.int .i64 a0_2) := (blk_cell BK484.out 2).trans rfl
            have hcz51_3 : wc.cell? ⟨gb484, 3, none⟩ = some (.int .i64 a0_3) := (blk_cell BK484.out 3).trans rfl
            have hcz51_4 : wc.cell? ⟨gb484, 4, none⟩ = some (.int .i64 a0_4) := (blk_cell BK484.out 4).trans rfl
            have hcz51_5 : wc.cell? ⟨gb484, 5, none⟩ = some (.int .i64 a0_5) := (blk_cell BK484.out 5).trans rfl
            have hcz51_6 : wc.cell? ⟨gb484, 6, none⟩ = some (.int .i64 a0_6) := (blk_cell BK484.out 6).trans rfl
            have hcz51_7 : wc.cell? ⟨gb484, 7, none⟩ = some (.int .i64 a0_7) := (blk_cell BK484.out 7).trans rfl
            have hcz51_8 : wc.cell? ⟨gb484, 8, none⟩ = some (.int .i64 a0_8) := (blk_cell BK484.out 8).trans rfl
            have hcz51_9 : wc.cell? ⟨gb484, 9, none⟩ = some (.int .i64 a0_9) := (blk_cell BK484.out 9).trans rfl
            have hcz51_10 : wc.cell? ⟨gb484, 10, none⟩ = some (.int .i64 a0_10) := (blk_cell BK484.out 10).trans rfl
            have hcz51_11 : wc.cell? ⟨gb484, 11, none⟩ = some (.int .u64 a0_11) := (blk_cell BK484.out 11).trans rfl
            have hcz51_12 : wc.cell? ⟨gb484, 12, none⟩ = some (.slice A0_12 l0_12.length c0_12) := (blk_cell BK484.out 12).trans rfl
            have hfz51_0 := blk_frozen BK484.out 0
            have hfz51_1 := blk_frozen BK484.out 1
            have hfz51_2 := blk_frozen BK484.out 2
            have hfz51_3 := blk_frozen BK484.out 3
            have hfz51_4 := blk_frozen BK484.out 4
            have hfz51_5 := blk_frozen BK484.out 5
            have hfz51_6 := blk_frozen BK484.out 6
            have hfz51_7 := blk_frozen BK484.out 7
            have hfz51_8 := blk_frozen BK484.out 8
            have hfz51_9 := blk_frozen BK484.out 9
            have hfz51_10 := blk_frozen BK484.out 10
            have hfz51_11 := blk_frozen BK484.out 11
            have hfz51_12 := blk_frozen BK484.out 12
            go_wp2_with (first | ((with_reducible refine gate_callee (f := 23) rfl ?_); refine goesL_ (some 86) rfl rfl Try.func23 (by kernel_rfl) rfl #[.slice A0_0 l0_0.length c0_0, .int .i64 a0_2] rfl (by (try simp only [List.map_toArray, List.map_cons, List.map_nil]); first | done | rfl | (simp only [List.length_drop, List.length_take]; rfl)) ?_; (with_reducible refine (busbarref12_Plan.calls kj15 _ _ l0_0 a0_2 t485 _ ?side1 ?side2 A37.out).mono ?_); (case side1 => repeat (first | exact (Kd.C_below HR0_0.out HB.out) | (with_reducible refine Kd.C_alloc ?_ _) | (with_reducible refine Kd.C_drewN ?_ _) | (with_reducible refine Kd.C_drew ?_))); (case side2 => exact HC0_0.out); rintro e w52 ⟨rfl, hb⟩; refine ⟨_, rfl, ?_⟩; have n0_ := Aside0.mk (blk_below (g := gb484) (o := .cells #[.slice A0_0 l0_0.length c0_0, .slice A0_1 l0_1.length c0_1, .int .i64 a0_2, .int .i64 a0_3, .int .i64 a0_4, .int .i64 a0_5, .int .i64 a0_6, .int .i64 a0_7, .int .i64 a0_8, .int .i64 a0_9, .int .i64 a0_10, .int .u64 a0_11, .slice A0_12 l0_12.length c0_12] 27 (0, 0)) (by (with_reducible repeat (first | refine blk_drewN ?_ _ | refine blk_drew ?_ | refine blk_alloc ?_ _)); exact BK484.out) hb); have n1_ := Aside0.mk (below_step (by repeat (first | (with_reducible first | exact HB.out | apply below_alloc | apply pw_below_drewN | apply below_drew1 | refine below_set ?_ GE484.out) | exact HB.out)) hb); clear BK484; clear HB; have BK484 := n0_; have HB := n1_; clear n0_ n1_; (try clear hb); (try clear hb2); (try clear hk); (try clear hi)))
            go_ret
            exact ⟨by first | rfl | (simp [errW_none, errW_some] <;> rfl) | (simp [*, errW_none, errW_some] <;> rfl), by repeat (first | (with_reducible first | exact HB.out | apply below_alloc | apply pw_below_drewN | apply below_drew1 | refine below_set ?_ GE484.out) | exact HB.out)⟩
end Go.Proofs.Ytjlbgopgeepiaaa.PConf
namespace Go.Proofs.Ytjlbgopgeepiaaa.PConf
open Go.RowKit Go.Proofs.YtjlbgopgeepiaaaW.PrintWords Go.Proofs.YtjlbgopgeepiaaaW.PrintLast Go.Proofs.YtjlbgopgeepiaaaW.PrintMore
attribute [local go_sem] max2_int min2_int max_two min_two max_three min_three max_four min_four plus_setCell_drewN plus_cell_same   -- for this text's walks alone
set_option linter.unusedVariables false
set_option linter.unusedSimpArgs false
mutual
def busbarlaw7_Objects.l0 : Nat → List Int → List (S50) → Int → Int → Option ((List (S50)))
 | 0, _, _, _, _ => none
 | k + 1, x0, x3, x4, x5 => if x5 < (x0.length : Int) then (busbarlaw7_Objects.j1 k x0 x3 x4 x5 (decide (x5 < 40))) else (busbarlaw7_Objects.j1 k x0 x3 x4 x5 false)
def busbarlaw7_Objects.j1 : Nat → List Int → List (S50) → Int → Int → Bool → Option ((List (S50)))
 | 0, _, _, _, _, _ => none
 | k + 1, x0, x3, x4, x5, x19 => if x19 = true then (if 0 ≤ x5 then (if x5 < (x0.length : Int) then ((busbarlaw0_Within.f (rd x0 x5) 12).bind fun t498 => (if (wrap64 ((wrap64 (x4 + 1)) + t498)) > 255 then (if (x0.length : Int) > 0 then (if 0 < (x0.length : Int) then ((busbarlaw0_Digit.f (rd x0 0) 2940 245).bind fun t500 => (if 0 ≤ t500 then (if (t500 : Int).toNat ≤ 281474976710656 then (if 1 < (x3.length : Int) then (some (x3.set (1 : Int).toNat (⟨(rd_T50 x3 1).f0, strOfNums (List.replicate (t500 : Int).toNat 0)⟩ : S50))) else (none)) else (none)) else (none))) else (none)) else (some x3)) else ((busbarlaw0_Digit.f (rd x0 x5) 12 245).bind fun t506 => (if 0 ≤ t506 then (if (t506 : Int).toNat ≤ 281474976710656 then (busbarlaw7_Objects.l1 k x0 x3 (wrap64 ((wrap64 (x4 + 1)) + t498)) x5 (List.replicate (t506 : Int).toNat 0) 0) else (none)) else (none))))) else (none)) else (none)) else (if (x0.length : Int) > 0 then (if 0 < (x0.length : Int) then ((busbarlaw0_Digit.f (rd x0 0) 2940 245).bind fun t492 => (if 0 ≤ t492 then (if (t492 : Int).toNat ≤ 281474976710656 then (if 1 < (x3.length : Int) then (some (x3.set (1 : Int).toNat (⟨(rd_T50 x3 1).f0, strOfNums (List.replicate (t492 : Int).toNat 0)⟩ : S50))) else (none)) else (none)) else (none))) else (none)) else (some x3))
def busbarlaw7_Objects.l1 : Nat → List Int → List (S50) → Int → Int → List Int → Int → Option ((List (S50)))
 | 0, _, _, _, _, _, _ => none
 | k + 1, x0, x3, x4, x5, x6, x7 => if x7 < (x6.length : Int) then (if 0 ≤ x7 then (busbarlaw7_Objects.l1 k x0 x3 x4 x5 (x6.set (x7 : Int).toNat ((wrap64 (97 + (Int.tmod x7 26))) % 256)) (wrap64 (x7 + 1))) else (none)) else (if x3.length < 5864062014805 then (busbarlaw7_Objects.l0 k x0 (x3 ++ [(⟨x4, strOfNums x6⟩ : S50)]) x4 (wrap64 (x5 + 1))) else (none))
end
def busbarlaw7_Objects.f (k : Nat) (l0 : List Int) : Option ((List (S50))) := busbarlaw7_Objects.l0 k l0 (([(⟨0, (⟨#[98, 117, 115, 98, 97, 114]⟩ : ByteArray)⟩ : S50), (⟨1, (⟨#[]⟩ : ByteArray)⟩ : S50), (⟨2, (⟨#[49]⟩ : ByteArray)⟩ : S50)] : List (S50))) 2 0
theorem busbarlaw7_Objects.mono_l : ∀ k, (∀ y0 y1 y2 y3, LeO (busbarlaw7_Objects.l0 k y0 y1 y2 y3) (busbarlaw7_Objects.l0 (k + 1) y0 y1 y2 y3)) ∧ (∀ y0 y1 y2 y3 y4, LeO (busbarlaw7_Objects.j1 k y0 y1 y2 y3 y4) (busbarlaw7_Objects.j1 (k + 1) y0 y1 y2 y3 y4)) ∧ (∀ y0 y1 y2 y3 y4 y5, LeO (busbarlaw7_Objects.l1 k y0 y1 y2 y3 y4 y5) (busbarlaw7_Objects.l1 (k + 1) y0 y1 y2 y3 y4 y5))
 | 0 => ⟨fun _ _ _ _ r h => by simp [busbarlaw7_Objects.l0] at h, fun _ _ _ _ _ r h => by simp [busbarlaw7_Objects.j1] at h, fun _ _ _ _ _ _ r h => by simp [busbarlaw7_Objects.l1] at h⟩
 | k + 1 => by
  obtain ⟨ih0, ih1, ih2⟩ := busbarlaw7_Objects.mono_l k
  refine ⟨?_, ?_, ?_⟩
  ·
   intro y0 y1 y2 y3
   unfold busbarlaw7_Objects.l0
   repeat' first
   | (with_reducible exact ih0 _ _ _ _)
   | (with_reducible exact ih1 _ _ _ _ _)
   | (with_reducible exact ih2 _ _ _ _ _ _)
   | (with_reducible exact LeO.refl _)
   | (with_reducible exact LeO.none _)
   | (with_reducible refine LeO.ite ?_ ?_)
   | (with_reducible refine LeO.bind ?_ (fun _ => ?_))
   | exact ih0 _ _ _ _
   | exact ih1 _ _ _ _ _
   | exact ih2 _ _ _ _ _ _
   | exact LeO.none _
   | refine LeO.ite ?_ ?_
   | refine LeO.bind ?_ (fun _ => ?_)
  ·
   intro y0 y1 y2 y3 y4
   unfold busbarlaw7_Objects.j1
   repeat' first
   | (with_reducible exact ih0 _ _ _ _)
   | (with_reducible exact ih1 _ _ _ _ _)
   | (with_reducible exact ih2 _ _ _ _ _ _)
   | (with_reducible exact LeO.refl _)
   | (with_reducible exact LeO.none _)
   | (with_reducible refine LeO.ite ?_ ?_)
   | (with_reducible refine LeO.bind ?_ (fun _ => ?_))
   | exact ih0 _ _ _ _
   | exact ih1 _ _ _ _ _
   | exact ih2 _ _ _ _ _ _
   | exact LeO.none _
   | refine LeO.ite ?_ ?_
   | refine LeO.bind ?_ (fun _ => ?_)
  ·
   intro y0 y1 y2 y3 y4 y5
   unfold busbarlaw7_Objects.l1
   repeat' first
   | (with_reducible exact ih0 _ _ _ _)
   | (with_reducible exact ih1 _ _ _ _ _)
   | (with_reducible exact ih2 _ _ _ _ _ _)
   | (with_reducible exact LeO.refl _)
   | (with_reducible exact LeO.none _)
   | (with_reducible refine LeO.ite ?_ ?_)
   | (with_reducible refine LeO.bind ?_ (fun _ => ?_))
   | exact ih0 _ _ _ _
   | exact ih1 _ _ _ _ _
   | exact ih2 _ _ _ _ _ _
   | exact LeO.none _
   | refine LeO.ite ?_ ?_
   | refine LeO.bind ?_ (fun _ => ?_)
theorem busbarlaw7_Objects.mono : ∀ a0 k, LeO (busbarlaw7_Objects.f k a0) (busbarlaw7_Objects.f (k + 1) a0) := by
 intro a0 k
 obtain ⟨ih0, ih1, ih2⟩ := busbarlaw7_Objects.mono_l k
 unfold busbarlaw7_Objects.f
 repeat' first
   | (with_reducible exact ih0 _ _ _ _)
   | (with_reducible exact ih1 _ _ _ _ _)
   | (with_reducible exact ih2 _ _ _ _ _ _)
   | (with_reducible exact LeO.refl _)
   | (with_reducible exact LeO.none _)
   | (with_reducible refine LeO.ite ?_ ?_)
   | (with_reducible refine LeO.bind ?_ (fun _ => ?_))
   | exact ih0 _ _ _ _
   | exact ih1 _ _ _ _ _
   | exact ih2 _ _ _ _ _ _
   | exact LeO.none _
   | refine LeO.ite ?_ ?_
   | refine LeO.bind ?_ (fun _ => ?_)
set_option maxHeartbeats 8000000 in
set_option maxRecDepth 100000 in
theorem busbarlaw7_Objects.calls (k : Nat) (A0 : Option Addr) (c0 : Nat) (l0 : List Int) (r : List (S50)) (w : World) (hr0 : Kd.C (Kd.int .i64) w A0 l0.length l0) (hc0 : l0.length ≤ c0) (h : busbarlaw7_Objects.f k l0 = some r) :
  Calls Try.prog 11 #[.slice A0 l0.length c0] w fun e w' => ∃ v0_ : Value, e = .returned (v0_) ∧ Kd.R k50 50 w' w.heap.size (fun _ => True) v0_ r ∧ Below w.heap.size w w' := by
 have hu50 := Try.underlying50
 have HR0 := Aside0.mk hr0
 have HC0 := Aside0.mk hc0
 clear hr0 hc0
 have HB := Aside0.mk (Below.refl w.heap.size w)
 have H : (busbarlaw7_Objects.l0 k l0 (([(⟨0, (⟨#[98, 117, 115, 98, 97, 114]⟩ : ByteArray)⟩ : S50), (⟨1, (⟨#[]⟩ : ByteArray)⟩ : S50), (⟨2, (⟨#[49]⟩ : ByteArray)⟩ : S50)] : List (S50))) 2 0) = some r := h
 clear h
 obtain ⟨y488, hy488⟩ : ∃ y_ : List (S50), y_ = (([(⟨0, (⟨#[98, 117, 115, 98, 97, 114]⟩ : ByteArray)⟩ : S50), (⟨1, (⟨#[]⟩ : ByteArray)⟩ : S50), (⟨2, (⟨#[49]⟩ : ByteArray)⟩ : S50)] : List (S50))) := ⟨_, rfl⟩
 replace H : (busbarlaw7_Objects.l0 k l0 y488 2 0) = some r := by first | (rw [hy488]; with_reducible exact H) | (have H2_ := (Option.bind_some _ _).symm.trans H; rw [hy488]; with_reducible exact H2_) | (have H2_ := (Option.bind_some _ _).symm.trans H; with_reducible exact H2_) | with_reducible exact H | (rw [hy488]; exact H) | exact H
 have Ny488 := Aside0.mk hy488
 clear hy488
 have H' := Aside0.mk H
 clear H
 go_enter Try.func11, Try.ntmps11
 go_wp2_with (first | ((with_reducible refine gate_dst (N := 11) rfl ?_); refine Kd.R_lit k50 _ 50 ?hg (N := 11) ?hd (xs := ([(⟨0, (⟨#[98, 117, 115, 98, 97, 114]⟩ : ByteArray)⟩ : S50), (⟨1, (⟨#[]⟩ : ByteArray)⟩ : S50), (⟨2, (⟨#[49]⟩ : ByteArray)⟩ : S50)] : List (S50))) (inner := [.int .i64 0, .string (⟨#[98, 117, 115, 98, 97, 114]⟩ : ByteArray), .int .i64 1, .string (⟨#[]⟩ : ByteArray), .int .i64 2, .string (⟨#[49]⟩ : ByteArray)]) (ok := fun _ => True) (okp := fun _ => True) ?hr ?hp (fun _ hk => hk) trivial (Below.refl _ _) (Nat.le_refl _) (by simp) ?_; (case hd => rfl); (case hg => rfl); (case hr => first | (go_simp; done) | (go_simp; rfl)); (case hp => exact (Reps.c2 (show Kd.M k50 _ _ _ (⟨0, (⟨#[98, 117, 115, 98, 97, 114]⟩ : ByteArray)⟩ : S50) [.int .i64 0, .string (⟨#[98, 117, 115, 98, 97, 114]⟩ : ByteArray)] from (k50_mkM _ _ _ (⟨0, (⟨#[98, 117, 115, 98, 97, 114]⟩ : ByteArray)⟩ : S50) )) (Reps.c2 (show Kd.M k50 _ _ _ (⟨1, (⟨#[]⟩ : ByteArray)⟩ : S50) [.int .i64 1, .string (⟨#[]⟩ : ByteArray)] from (k50_mkM _ _ _ (⟨1, (⟨#[]⟩ : ByteArray)⟩ : S50) )) (Reps.c2 (show Kd.M k50 _ _ _ (⟨2, (⟨#[49]⟩ : ByteArray)⟩ : S50) [.int .i64 2, .string (⟨#[49]⟩ : ByteArray)] from (k50_mkM _ _ _ (⟨2, (⟨#[49]⟩ : ByteArray)⟩ : S50) )) (Reps.none _ _))))); intro v489 w2 ho3 hb hg_ hnew_; clear hg_ hnew_; (first | rw [← Ny488.out] at ho3 | (simp only [Int.reduceToNat] at ho3; rw [← Ny488.out] at ho3)); have HO490 := Aside0.mk (Kd.R_lower ho3 (below_size (HB.out))); replace HB := Aside0.mk (below_step (HB.out) hb); clear hb ho3))
 go_loopg [3, 4, 5] k (fun kq v3 v4 v5 w' => ∃ (x3_1 : List (S50)) (x4_1 : Int) (x5_1 : Int), v4 = .int .i64 x4_1 ∧ v5 = .int .i64 x5_1 ∧ Aside0 (busbarlaw7_Objects.l0 kq l0 x3_1 x4_1 x5_1 = some r) ∧ Aside0 (kq ≤ k) ∧ Aside0 (Kd.R k50 50 w' w.heap.size (fun _ => True) v3 x3_1) ∧ Aside0 (Below w.heap.size w w'))
 case atStart => exact ⟨(y488), (2), (0), (by first | rfl | (simp; done) | (simp [*]; done)), (by first | rfl | (simp; done) | (simp [*]; done)), H', ⟨Nat.le_refl _⟩, ⟨HO490.out⟩, ⟨HB.out⟩⟩
 case round =>
  clear H'
  (try clear c2)
  obtain ⟨x3_1, x4_1, x5_1, rfl, rfl, HA, HK1, HO_3, HB⟩ := hrel
  cases gk with
  | zero => exact absurd HA.out (by simp [busbarlaw7_Objects.l0])
  | succ k1 =>
   have H := HA.out
   clear HA
   simp only [busbarlaw7_Objects.l0] at H
   have HC4 := Aside0.mk H
   clear H
   go_upto_region 4 with (fail)
   go_cut [19] (fun v19 wc => ∃ (kq : Nat) (x19_3 : Bool), v19 = .bool x19_3 ∧ Aside0 (busbarlaw7_Objects.j1 kq l0 x3_1 x4_1 x5_1 x19_3 = some r) ∧ Aside0 (kq ≤ k1) ∧ Aside0 (Kd.R k50 50 wc w.heap.size (fun _ => True) u3 x3_1) ∧ Aside0 (Below w.heap.size w wc))
   case first =>
    have H := HC4.out
    clear HC4
    by_cases c5 : x5_1 < (l0.length : Int)
    ·
     rw [if_pos c5] at H
     have c5b0 : decide (x5_1 < (l0.length : Int)) = true := decide_eq_true c5
     clear c5
     (first | rw [c5b0] | (simp only [i64_w, i32_w]; rw [c5b0]) | skip)
     have H' := Aside0.mk H
     clear H
     go_wp2
     go_meet
     case rel => exact ⟨_, (decide (x5_1 < 40)), (by first | rfl | (simp; done) | (simp [*]; done)), H', ⟨by have := HK1.out; first | omega | exact Nat.le_refl _⟩, ⟨HO_3.out⟩, ⟨HB.out⟩⟩
    ·
     rw [if_neg c5] at H
     have c5b0 : decide (x5_1 < (l0.length : Int)) = false := decide_eq_false c5
     clear c5
     (first | rw [c5b0] | (simp only [i64_w, i32_w]; rw [c5b0]) | skip)
     have H' := Aside0.mk H
     clear H
     go_wp2
     go_meet
     case rel => exact ⟨_, (false), (by first | rfl | (simp; done) | (simp [*]; done)), H', ⟨by have := HK1.out; first | omega | exact Nat.le_refl _⟩, ⟨HO_3.out⟩, ⟨HB.out⟩⟩
   case rest =>
    clear HC4
    (try clear c2)
    obtain ⟨kq, x19_3, rfl, HA, HJ3, HO_3, HB⟩ := hcut
    cases kq with
    | zero => exact absurd HA.out (by simp [busbarlaw7_Objects.j1])
    | succ kj3 =>
     have H := HA.out
     clear HA
     simp only [busbarlaw7_Objects.j1] at H
     by_cases c6 : x19_3 = true
     ·
      subst c6
      have H1 : (if 0 ≤ x5_1 then (if x5_1 < (l0.length : Int) then ((busbarlaw0_Within.f (rd l0 x5_1) 12).bind fun t498 => (if (wrap64 ((wrap64 (x4_1 + 1)) + t498)) > 255 then (if (l0.length : Int) > 0 then (if 0 < (l0.length : Int) then ((busbarlaw0_Digit.f (rd l0 0) 2940 245).bind fun t500 => (if 0 ≤ t500 then (if (t500 : Int).toNat ≤ 281474976710656 then (if 1 < (x3_1.length : Int) then (some (x3_1.set (1 : Int).toNat (⟨(rd_T50 x3_1 1).f0, strOfNums (List.replicate (t500 : Int).toNat 0)⟩ : S50))) else (none)) else (none)) else (none))) else (none)) else (some x3_1)) else ((busbarlaw0_Digit.f (rd l0 x5_1) 12 245).bind fun t506 => (if 0 ≤ t506 then (if (t506 : Int).toNat ≤ 281474976710656 then (busbarlaw7_Objects.l1 kj3 l0 x3_1 (wrap64 ((wrap64 (x4_1 + 1)) + t498)) x5_1 (List.replicate (t506 : Int).toNat 0) 0) else (none)) else (none))))) else (none)) else (none)) = some r := by rw [if_pos rfl] at H; exact H
      clear H
      have H := H1
      clear H1
      by_cases c7 : 0 ≤ x5_1
      ·
       rw [if_pos c7] at H
       have c7b0 : decide (0 ≤ x5_1) = true := decide_eq_true c7
       clear c7
       by_cases c8 : x5_1 < (l0.length : Int)
       ·
        rw [if_pos c8] at H
        have c8b0 : decide (x5_1 < (l0.length : Int)) = true := decide_eq_true c8
        clear c8
        replace H := Option.bind_eq_some_iff.mp H
        obtain ⟨t498, A90, H⟩ := H
        have A9 := Aside0.mk A90
        clear A90
        by_cases c10 : (wrap64 ((wrap64 (x4_1 + 1)) + t498)) > 255
        ·
         rw [if_pos c10] at H
         have c10b0 : decide (255 < (wrap64 ((wrap64 (x4_1 + 1)) + t498))) = true := decide_eq_true c10
         clear c10
         by_cases c11 : (l0.length : Int) > 0
         ·
          rw [if_pos c11] at H
          have c11b0 : decide (0 < (l0.length : Int)) = true := decide_eq_true c11
          have c11b1 : decide (0 < l0.length) = true := decide_eq_true (by omega)
          clear c11
          by_cases c12 : 0 < (l0.length : Int)
          ·
           rw [if_pos c12] at H
           have c12b0 : decide (0 < (l0.length : Int)) = true := decide_eq_true c12
           have c12b1 : decide (0 < l0.length) = true := decide_eq_true (by omega)
           clear c12
           replace H := Option.bind_eq_some_iff.mp H
           obtain ⟨t500, A130, H⟩ := H
           have A13 := Aside0.mk A130
           clear A130
           by_cases c14 : 0 ≤ t500
           ·
            rw [if_pos c14] at H
            have c14b0 := eq_true c14
            have c14b1 : decide (0 ≤ t500) = true := decide_eq_true c14
            clear c14
            by_cases c15 : (t500 : Int).toNat ≤ 281474976710656
            ·
             rw [if_pos c15] at H
             have c15b0 := eq_true c15
             have c15b1 : decide ((t500 : Int).toNat ≤ 281474976710656) = true := decide_eq_true c15
             clear c15
             obtain ⟨y501, hy501⟩ : ∃ y_ : List Int, y_ = (List.replicate (t500 : Int).toNat 0) := ⟨_, rfl⟩
             replace H : (if 1 < (x3_1.length : Int) then (some (x3_1.set (1 : Int).toNat (⟨(rd_T50 x3_1 1).f0, strOfNums y501⟩ : S50))) else (none)) = some r := by first | (rw [hy501]; with_reducible exact H) | (have H2_ := (Option.bind_some _ _).symm.trans H; rw [hy501]; with_reducible exact H2_) | (have H2_ := (Option.bind_some _ _).symm.trans H; with_reducible exact H2_) | with_reducible exact H | (rw [hy501]; exact H) | exact H
             have Ny501 := Aside0.mk hy501
             clear hy501
             by_cases c16 : 1 < (x3_1.length : Int)
             ·
              rw [if_pos c16] at H
              have c16b0 : decide (1 < (x3_1.length : Int)) = true := decide_eq_true c16
              have c16b1 : decide (1 < x3_1.length) = true := decide_eq_true (by omega)
              clear c16
              obtain ⟨y504, hy504⟩ : ∃ y_ : List (S50), y_ = (x3_1.set (1 : Int).toNat (⟨(rd_T50 x3_1 1).f0, strOfNums y501⟩ : S50)) := ⟨_, rfl⟩
              replace H : (some y504) = some r := by first | (rw [hy504]; with_reducible exact H) | (have H2_ := (Option.bind_some _ _).symm.trans H; rw [hy504]; with_reducible exact H2_) | (have H2_ := (Option.bind_some _ _).symm.trans H; with_reducible exact H2_) | with_reducible exact H | (rw [hy504]; exact H) | exact H
              have Ny504 := Aside0.mk hy504
              clear hy504
              obtain rfl := Option.some.inj H
              have p497 : 0 ≤ (x5_1 : Int) := of_decide_eq_true (by first | (with_reducible assumption) | assumption)
              have q497 : x5_1 < (l0.length : Int) := of_decide_eq_true (by first | (with_reducible assumption) | assumption)
              obtain ⟨ad497, e497, hx497_0⟩ := Kd.at_int HR0.out x5_1 p497 q497
              cases e497
              replace hx497_0 := (HB.out.cell (World.block_lt_of_cell? w _ hx497_0)).trans hx497_0
              replace p497 := eq_true p497
              replace q497 := eq_true q497
              go_wp2_with (first | ((with_reducible refine gate_callee (f := 12) rfl ?_); refine goesL_ (some 28) rfl rfl Try.func12 (by kernel_rfl) rfl #[.int .i64 (rd l0 x5_1), .int .i64 12] rfl (by (try simp only [List.map_toArray, List.map_cons, List.map_nil]); first | done | rfl | (simp only [List.length_drop, List.length_take]; rfl)) ?_; (with_reducible refine (busbarlaw0_Within.calls (rd l0 x5_1) 12 t498 _ A9.out).mono ?_); rintro e w' ⟨rfl, ⟨nd, rfl⟩⟩; refine ⟨_, rfl, ?_⟩; (try (rw [drewN_self wc]; generalize hq_ : World.drewN wc _ = wc; replace HO_3 := Kd.dqR HO_3 hq_; replace HB := dqB HB hq_; clear hq_)); have p499 : 0 ≤ (0 : Int) := (by omega); have q499 : 0 < (l0.length : Int) := of_decide_eq_true (by first | (with_reducible assumption) | assumption); obtain ⟨ad499, e499, hx499_0⟩ := Kd.at_int HR0.out 0 p499 q499; obtain rfl : ad497 = ad499 := (by injection e499); have qi499 : (0 < l0.length) = True := eq_true (by omega); (try rw [show ((0 : Int)).toNat = 0 from rfl] at hx499_0); (try rw [Addr.add_zero'] at hx499_0); replace hx499_0 := (HB.out.cell (World.block_lt_of_cell? w _ hx499_0)).trans hx499_0; replace p499 := eq_true p499; replace q499 := eq_true q499) | ((with_reducible refine gate_callee (f := 27) rfl ?_); refine goesL_ (some 65) rfl rfl Try.func27 (by kernel_rfl) rfl #[.int .i64 (rd l0 0), .int .i64 2940, .int .i64 245] rfl (by (try simp only [List.map_toArray, List.map_cons, List.map_nil]); first | done | rfl | (simp only [List.length_drop, List.length_take]; rfl)) ?_; (with_reducible refine (busbarlaw0_Digit.calls (rd l0 0) 2940 245 t500 _ A13.out).mono ?_); rintro e w' ⟨rfl, ⟨nd, rfl⟩⟩; refine ⟨_, rfl, ?_⟩; (try (rw [drewN_self wc]; generalize hq_ : World.drewN wc _ = wc; replace HO_3 := Kd.dqR HO_3 hq_; replace HB := dqB HB hq_; clear hq_))) | ((with_reducible refine gate_dst (N := 66) rfl ?_); refine Kd.R_make (Kd.int .u8) _ 5 rfl (N := 66) rfl 58 _ _ rfl t500 rfl rfl Try.underlying58 (.int .u8 0) 1 info5 rfl (by decide) (by omega) 0 (ok := fun _ => True) (okp := fun _ => True) rfl (fun _ hk => hk) trivial (of_decide_eq_true (by first | (with_reducible assumption) | assumption)) (Nat.le_trans (Nat.mul_le_mul_right _ (of_decide_eq_true (by first | (with_reducible assumption) | assumption) : t500.toNat ≤ 281474976710656)) (by omega)) (Below.refl _ _) (Nat.le_refl _) ?_; intro v502 w18 ho19 hb hg_ hnew_; clear hg_ hnew_; (first | rw [← Ny501.out] at ho19 | (simp only [Int.reduceToNat] at ho19; rw [← Ny501.out] at ho19)); replace HO_3 := Aside0.mk (Kd.R_below (HO_3.out) hb); have HO503 := Aside0.mk (Kd.R_lower ho19 (below_size (HB.out))); replace HB := Aside0.mk (below_step (HB.out) hb); clear hb ho19; have hcv20 := own_string (P := Try.prog) Try.underlying58 Try.underlying5 Try.underlying9 (Kd.own_of_R (h1 := fun _ => rfl) HO503.out); have p17 : 0 ≤ (1 : Int) := (by omega); have q17 : (1 : Int) < ((x3_1.length : Int) : Int) := of_decide_eq_true (by first | (with_reducible assumption) | assumption); have qi17 : (1 < x3_1.length) = True := eq_true (by omega); obtain ⟨go17, co17, eo17, gb17, gl17, cl17, HG17⟩ := Kd.R_form HO_3.out (by omega); (first | cases eo17 | (injection eo17 with ea_ en_ ec_; (first | subst ea_ | (injection ea_ with ea_; subst ea_)); subst ec_; clear en_)); have GB17 := Aside0.mk gb17; have GG17 := Aside0.mk HG17; clear gb17 gl17 HG17; obtain ⟨ce17, hcl17, hM17, hcc17, hfr17⟩ := Kd.R_elem HO_3.out z50 (1 : Int) p17 q17; obtain rfl := k50_openM hM17; have hx17_0 : w18.cell? ⟨go17, (1 : Int).toNat * 2, none⟩ = some (.int .i64 ((rd_T50 x3_1 1).f0)) := hcc17 0 _ rfl; have hx17_1 : w18.cell? ⟨go17, (1 : Int).toNat * 2 + 1, none⟩ = some (.string ((rd_T50 x3_1 1).f1)) := hcc17 1 _ rfl; have hf17_0 : w18.frozen? ⟨go17, (1 : Int).toNat * 2, none⟩ = false := hfr17 0; have hf17_1 : w18.frozen? ⟨go17, (1 : Int).toNat * 2 + 1, none⟩ = false := hfr17 1; clear hcl17 hcc17 hfr17 hM17; (try rw [show ((1 : Int)).toNat = 1 from rfl] at hx17_0); (try simp only [Nat.reduceMul, Nat.zero_mul, Nat.zero_add, Nat.reduceAdd] at hx17_0); (try rw [show ((1 : Int)).toNat = 1 from rfl] at hf17_0); (try simp only [Nat.reduceMul, Nat.zero_mul, Nat.zero_add, Nat.reduceAdd] at hf17_0); (try rw [show ((1 : Int)).toNat = 1 from rfl] at hx17_1); (try simp only [Nat.reduceMul, Nat.zero_mul, Nat.zero_add, Nat.reduceAdd] at hx17_1); (try rw [show ((1 : Int)).toNat = 1 from rfl] at hf17_1); (try simp only [Nat.reduceMul, Nat.zero_mul, Nat.zero_add, Nat.reduceAdd] at hf17_1); replace p17 := eq_true p17; replace q17 := eq_true q17; have HX21 := Aside0.mk (show Kd.R k50 50 w18 w.heap.size (fun _ => True) (.slice (some ⟨go17, 0, none⟩) x3_1.length co17) x3_1 from (HO_3.out)); obtain ⟨ce21, hcl21, hM21, hcc21, hfr21⟩ := Kd.R_elem HX21.out z50 (1 : Int) (by omega) (by have h_ : (1 : Int) < ((x3_1.length : Int) : Int) := of_decide_eq_true (by first | (with_reducible assumption) | assumption); first | exact h_ | (have e_ := (Kd.R_reads' HO_3.out).1; omega) | simpa using h_); obtain rfl := k50_openM hM21; have HP21 := Kd.R_seg HX21.out (1 : Int) (by omega) (by have h_ : (1 : Int) < ((x3_1.length : Int) : Int) := of_decide_eq_true (by first | (with_reducible assumption) | assumption); first | exact h_ | (have e_ := (Kd.R_reads' HO_3.out).1; omega) | simpa using h_) (seg := [.string (strOfNums y501)]) (j := 1) hcl21 hcc21 (show 2 ≤ 2 from by decide) (x' := (⟨(rd_T50 x3_1 1).f0, strOfNums y501⟩ : S50)) (k50_mkM _ _ _ (⟨(rd_T50 x3_1 1).f0, strOfNums y501⟩ : S50) ) (fun _ hk => hk); have hx21_1 := hcc21 1 _ rfl; (try simp only [show (k50).sz = 2 from rfl, Nat.mul_one, Nat.add_zero] at hx21_1); (try rw [show ((1 : Int)).toNat = 1 from rfl] at hx21_1); (try simp only [Nat.reduceMul, Nat.zero_mul, Nat.zero_add, Nat.reduceAdd] at hx21_1); have hf21_1 := hfr21 1; (try simp only [show (k50).sz = 2 from rfl, Nat.mul_one, Nat.add_zero] at hf21_1); (try rw [show ((1 : Int)).toNat = 1 from rfl] at hf21_1); (try simp only [Nat.reduceMul, Nat.zero_mul, Nat.zero_add, Nat.reduceAdd] at hf21_1); clear hcl21 hcc21 hfr21 hM21) | ((with_reducible refine gate_store (t := 9) (p := 69) rfl ?_); refine store_event (t := 9) (p := 69) (v := ?vo_w22) (w1 := (w18.setCell ⟨go17, 3, none⟩ (.string (strOfNums y501)))) ?hg ?ho ?hn ?hr ?_; (case ho => rfl); (case hg => rfl); (case hn => rfl); (case hr => first | (go_simp; done) | (go_simp; rfl)); intro w22 hw; have hg : w18.grownBy w22 (some go17) := (by rw [hw]; exact HP21.2); have hp_ : Kd.R k50 50 w22 w.heap.size (fun _ => True) (.slice (some ⟨go17, 0, none⟩) x3_1.length co17) y504 := (by rw [hw, Ny504.out]; exact HP21.1); clear HP21; replace HO503 := Aside0.mk (Kd.R_over' (v := (.slice (some ⟨go17, 0, none⟩) x3_1.length co17)) (HO503.out) (Kd.R_typed HO_3.out) (by decide) hg); replace HO_3 := Aside0.mk (hp_); replace HB := Aside0.mk ((by rw [hw]; exact below_set (HB.out) GB17.out : Below w.heap.size w w22)); clear hg hw hp_))
              go_ret
              exact ⟨_, by first | rfl | (simp [errW_none, errW_some] <;> rfl) | (simp [*, errW_none, errW_some] <;> rfl), by (with_reducible repeat (first | apply Kd.R_alloc | apply Kd.R_drewN | apply Kd.R_drew)); exact HO_3.out, HB.out⟩
             ·
              rw [if_neg c16] at H
              exact absurd H (by simp)
            ·
             rw [if_neg c15] at H
             exact absurd H (by simp)
           ·
            rw [if_neg c14] at H
            exact absurd H (by simp)
          ·
           rw [if_neg c12] at H
           exact absurd H (by simp)
         ·
          rw [if_neg c11] at H
          have c11b0 : decide (0 < (l0.length : Int)) = false := decide_eq_false c11
          have c11b1 : decide (0 < l0.length) = false := decide_eq_false (by omega)
          clear c11
          obtain rfl := Option.some.inj H
          have p497 : 0 ≤ (x5_1 : Int) := of_decide_eq_true (by first | (with_reducible assumption) | assumption)
          have q497 : x5_1 < (l0.length : Int) := of_decide_eq_true (by first | (with_reducible assumption) | assumption)
          obtain ⟨ad497, e497, hx497_0⟩ := Kd.at_int HR0.out x5_1 p497 q497
          cases e497
          replace hx497_0 := (HB.out.cell (World.block_lt_of_cell? w _ hx497_0)).trans hx497_0
          replace p497 := eq_true p497
          replace q497 := eq_true q497
          go_wp2_with (first | ((with_reducible refine gate_callee (f := 12) rfl ?_); refine goesL_ (some 28) rfl rfl Try.func12 (by kernel_rfl) rfl #[.int .i64 (rd l0 x5_1), .int .i64 12] rfl (by (try simp only [List.map_toArray, List.map_cons, List.map_nil]); first | done | rfl | (simp only [List.length_drop, List.length_take]; rfl)) ?_; (with_reducible refine (busbarlaw0_Within.calls (rd l0 x5_1) 12 t498 _ A9.out).mono ?_); rintro e w' ⟨rfl, ⟨nd, rfl⟩⟩; refine ⟨_, rfl, ?_⟩))
          go_ret
          exact ⟨_, by first | rfl | (simp [errW_none, errW_some] <;> rfl) | (simp [*, errW_none, errW_some] <;> rfl), by (with_reducible repeat (first | apply Kd.R_alloc | apply Kd.R_drewN | apply Kd.R_drew)); exact HO_3.out, by repeat (first | (with_reducible first | exact HB.out | apply below_alloc | apply pw_below_drewN | apply below_drew1) | exact HB.out)⟩
        ·
         rw [if_neg c10] at H
         have c10b0 : decide (255 < (wrap64 ((wrap64 (x4_1 + 1)) + t498))) = false := decide_eq_false c10
         clear c10
         replace H := Option.bind_eq_some_iff.mp H
         obtain ⟨t506, A230, H⟩ := H
         have A23 := Aside0.mk A230
         clear A230
         by_cases c24 : 0 ≤ t506
         ·
          rw [if_pos c24] at H
          have c24b0 := eq_true c24
          have c24b1 : decide (0 ≤ t506) = true := decide_eq_true c24
          clear c24
          by_cases c25 : (t506 : Int).toNat ≤ 281474976710656
          ·
           rw [if_pos c25] at H
           have c25b0 := eq_true c25
           have c25b1 : decide ((t506 : Int).toNat ≤ 281474976710656) = true := decide_eq_true c25
           clear c25
           obtain ⟨y507, hy507⟩ : ∃ y_ : List Int, y_ = (List.replicate (t506 : Int).toNat 0) := ⟨_, rfl⟩
           replace H : (busbarlaw7_Objects.l1 kj3 l0 x3_1 (wrap64 ((wrap64 (x4_1 + 1)) + t498)) x5_1 y507 0) = some r := by first | (rw [hy507]; with_reducible exact H) | (have H2_ := (Option.bind_some _ _).symm.trans H; rw [hy507]; with_reducible exact H2_) | (have H2_ := (Option.bind_some _ _).symm.trans H; with_reducible exact H2_) | with_reducible exact H | (rw [hy507]; exact H) | exact H
           have Ny507 := Aside0.mk hy507
           clear hy507
           have H' := Aside0.mk H
           clear H
           have p497 : 0 ≤ (x5_1 : Int) := of_decide_eq_true (by first | (with_reducible assumption) | assumption)
           have q497 : x5_1 < (l0.length : Int) := of_decide_eq_true (by first | (with_reducible assumption) | assumption)
           obtain ⟨ad497, e497, hx497_0⟩ := Kd.at_int HR0.out x5_1 p497 q497
           cases e497
           replace hx497_0 := (HB.out.cell (World.block_lt_of_cell? w _ hx497_0)).trans hx497_0
           replace p497 := eq_true p497
           replace q497 := eq_true q497
           go_wp2_with (first | ((with_reducible refine gate_callee (f := 12) rfl ?_); refine goesL_ (some 28) rfl rfl Try.func12 (by kernel_rfl) rfl #[.int .i64 (rd l0 x5_1), .int .i64 12] rfl (by (try simp only [List.map_toArray, List.map_cons, List.map_nil]); first | done | rfl | (simp only [List.length_drop, List.length_take]; rfl)) ?_; (with_reducible refine (busbarlaw0_Within.calls (rd l0 x5_1) 12 t498 _ A9.out).mono ?_); rintro e w' ⟨rfl, ⟨nd, rfl⟩⟩; refine ⟨_, rfl, ?_⟩; have p505 : 0 ≤ (x5_1 : Int) := of_decide_eq_true (by first | (with_reducible assumption) | assumption); have q505 : x5_1 < (l0.length : Int) := of_decide_eq_true (by first | (with_reducible assumption) | assumption); obtain ⟨ad505, e505, hx505_0⟩ := Kd.at_int HR0.out x5_1 p505 q505; obtain rfl : ad497 = ad505 := (by injection e505); replace hx505_0 := (HB.out.cell (World.block_lt_of_cell? w _ hx505_0)).trans hx505_0; replace p505 := eq_true p505; replace q505 := eq_true q505) | ((with_reducible refine gate_callee (f := 27) rfl ?_); refine goesL_ (some 36) rfl rfl Try.func27 (by kernel_rfl) rfl #[.int .i64 (rd l0 x5_1), .int .i64 12, .int .i64 245] rfl (by (try simp only [List.map_toArray, List.map_cons, List.map_nil]); first | done | rfl | (simp only [List.length_drop, List.length_take]; rfl)) ?_; (with_reducible refine (busbarlaw0_Digit.calls (rd l0 x5_1) 12 245 t506 _ A23.out).mono ?_); rintro e w' ⟨rfl, ⟨nd, rfl⟩⟩; refine ⟨_, rfl, ?_⟩) | ((with_reducible refine gate_dst (N := 37) rfl ?_); refine Kd.R_make (Kd.int .u8) _ 5 rfl (N := 37) rfl 58 _ _ rfl t506 rfl rfl Try.underlying58 (.int .u8 0) 1 info5 rfl (by decide) (by omega) 0 (ok := fun _ => True) (okp := fun _ => True) rfl (fun _ hk => hk) trivial (of_decide_eq_true (by first | (with_reducible assumption) | assumption)) (Nat.le_trans (Nat.mul_le_mul_right _ (of_decide_eq_true (by first | (with_reducible assumption) | assumption) : t506.toNat ≤ 281474976710656)) (by omega)) (Below.refl _ _) (Nat.le_refl _) ?_; intro v508 w26 ho27 hb hg_ hnew_; clear hg_ hnew_; (first | rw [← Ny507.out] at ho27 | (simp only [Int.reduceToNat] at ho27; rw [← Ny507.out] at ho27)); replace HO_3 := Aside0.mk (Kd.R_below (by (with_reducible repeat (first | apply Kd.R_alloc | apply Kd.R_drewN | apply Kd.R_drew)); exact HO_3.out) hb); have HO509 := Aside0.mk (Kd.R_lower ho27 (below_size (by repeat (first | (with_reducible first | exact HB.out | apply below_alloc | apply pw_below_drewN | apply below_drew1) | exact HB.out)))); replace HB := Aside0.mk (below_step (by repeat (first | (with_reducible first | exact HB.out | apply below_alloc | apply pw_below_drewN | apply below_drew1) | exact HB.out)) hb); clear hb ho27))
           go_loopg [7] kj3 (fun kq v7 w' => ∃ (x6_3 : List Int) (x7_3 : Int), v7 = .int .i64 x7_3 ∧ Aside0 (busbarlaw7_Objects.l1 kq l0 x3_1 (wrap64 ((wrap64 (x4_1 + 1)) + t498)) x5_1 x6_3 x7_3 = some r) ∧ Aside0 (kq ≤ kj3) ∧ Aside0 (Kd.R k50 50 w' w.heap.size (fun _ => True) u3 x3_1) ∧ Aside0 (Kd.R (Kd.int .u8) 5 w' w.heap.size (fun _ => True) v508 x6_3) ∧ Aside0 (Below w.heap.size w w'))
           case atStart => exact ⟨(y507), (0), (by first | rfl | (simp; done) | (simp [*]; done)), H', ⟨Nat.le_refl _⟩, ⟨HO_3.out⟩, ⟨HO509.out⟩, ⟨HB.out⟩⟩
           case round =>
            clear H'
            (try clear c7b0); (try clear c8b0); (try clear c10b0); (try clear c24b0); (try clear c24b1); (try clear c25b0); (try clear c25b1); (try clear hx497_0); (try clear hx505_0); (try clear p497); (try clear p505); (try clear q497); (try clear q505)
            obtain ⟨x6_3, x7_3, rfl, HA, HK3, HO_3, HO_6, HB⟩ := hrel
            cases gk with
            | zero => exact absurd HA.out (by simp [busbarlaw7_Objects.l1])
            | succ k3 =>
             have H := HA.out
             clear HA
             simp only [busbarlaw7_Objects.l1] at H
             by_cases c28 : x7_3 < (x6_3.length : Int)
             ·
              rw [if_pos c28] at H
              have c28b0 : decide (x7_3 < (x6_3.length : Int)) = true := decide_eq_true c28
              clear c28
              by_cases c29 : 0 ≤ x7_3
              ·
               rw [if_pos c29] at H
               have c29b0 : decide (0 ≤ x7_3) = true := decide_eq_true c29
               clear c29
               obtain ⟨y510, hy510⟩ : ∃ y_ : List Int, y_ = (x6_3.set (x7_3 : Int).toNat ((wrap64 (97 + (Int.tmod x7_3 26))) % 256)) := ⟨_, rfl⟩
               replace H : (busbarlaw7_Objects.l1 k3 l0 x3_1 (wrap64 ((wrap64 (x4_1 + 1)) + t498)) x5_1 y510 (wrap64 (x7_3 + 1))) = some r := by first | (rw [hy510]; with_reducible exact H) | (have H2_ := (Option.bind_some _ _).symm.trans H; rw [hy510]; with_reducible exact H2_) | (have H2_ := (Option.bind_some _ _).symm.trans H; with_reducible exact H2_) | with_reducible exact H | (rw [hy510]; exact H) | exact H
               have Ny510 := Aside0.mk hy510
               clear hy510
               have H' := Aside0.mk H
               clear H
               obtain ⟨Ao31, co31, eo31⟩ := Kd.R_slice HO_6.out
               subst eo31
               have p30 : 0 ≤ (x7_3 : Int) := of_decide_eq_true (by first | (with_reducible assumption) | assumption)
               have q30 : (x7_3 : Int) < ((x6_3.length : Int) : Int) := of_decide_eq_true (by first | (with_reducible assumption) | assumption)
               obtain ⟨go30, co30, eo30, gb30, gl30, cl30, HG30⟩ := Kd.R_form HO_6.out (by omega)
               (first | cases eo30 | (injection eo30 with ea_ en_ ec_; (first | subst ea_ | (injection ea_ with ea_; subst ea_)); subst ec_; clear en_))
               have GB30 := Aside0.mk gb30
               have GG30 := Aside0.mk HG30
               clear gb30 gl30 HG30
               obtain ⟨hx30_0, hf30_0⟩ := Kd.R_celln 0 HO_6.out (x7_3 : Int) p30 q30
               replace p30 := eq_true p30
               replace q30 := eq_true q30
               have HP32 := Kd.R_putg HO_6.out (x7_3 : Int) ((wrap64 (97 + (Int.tmod x7_3 26))) % 256)
               go_wp2_with (first | ((with_reducible refine gate_store (t := 5) (p := 50) rfl ?_); refine store_event (t := 5) (p := 50) (v := ?vo_w33) (w1 := (wr.setCell ⟨go30, (x7_3 : Int).toNat, none⟩ (.int .u8 ((wrap64 (97 + (Int.tmod x7_3 26))) % 256)))) ?hg ?ho ?hn ?hr ?_; (case ho => rfl); (case hg => rfl); (case hn => rfl); (case hr => first | (go_simp; done) | (go_simp; rfl)); intro w33 hw; have hg : wr.grownBy w33 (some go30) := (by rw [hw]; exact HP32.2); have hp_ : Kd.R (Kd.int .u8) 5 w33 w.heap.size (fun _ => True) (.slice (some ⟨go30, 0, none⟩) x6_3.length co31) y510 := (by rw [hw, Ny510.out]; exact HP32.1); clear HP32; replace HO_3 := Aside0.mk (Kd.R_over' (v := (.slice (some ⟨go30, 0, none⟩) x6_3.length co31)) (HO_3.out) (Kd.R_typed HO_6.out) (by decide) hg); replace HO_6 := Aside0.mk (hp_); replace HB := Aside0.mk ((by rw [hw]; exact below_set (HB.out) GB30.out : Below w.heap.size w w33)); clear hg hw hp_))
               go_roundg k3
               case measure => have := HK1.out; have := HJ3.out; have := HK3.out; omega
               case rel => exact ⟨(y510), (wrap64 (x7_3 + 1)), (by first | rfl | (simp; done) | (simp [*]; done)), H', ⟨by have := HK1.out; have := HJ3.out; have := HK3.out; omega⟩, ⟨HO_3.out⟩, ⟨HO_6.out⟩, ⟨HB.out⟩⟩
              ·
               rw [if_neg c29] at H
               exact absurd H (by simp)
             ·
              rw [if_neg c28] at H
              have c28b0 : decide (x7_3 < (x6_3.length : Int)) = false := decide_eq_false c28
              clear c28
              by_cases c34 : x3_1.length < 5864062014805
              ·
               rw [if_pos c34] at H
               have LMc34 := Aside0.mk c34
               clear c34
               obtain ⟨y511, hy511⟩ : ∃ y_ : List (S50), y_ = (x3_1 ++ [(⟨(wrap64 ((wrap64 (x4_1 + 1)) + t498)), strOfNums x6_3⟩ : S50)]) := ⟨_, rfl⟩
               replace H : (busbarlaw7_Objects.l0 k3 l0 y511 (wrap64 ((wrap64 (x4_1 + 1)) + t498)) (wrap64 (x5_1 + 1))) = some r := by first | (rw [hy511]; with_reducible exact H) | (have H2_ := (Option.bind_some _ _).symm.trans H; rw [hy511]; with_reducible exact H2_) | (have H2_ := (Option.bind_some _ _).symm.trans H; with_reducible exact H2_) | with_reducible exact H | (rw [hy511]; exact H) | exact H
               have Ny511 := Aside0.mk hy511
               clear hy511
               have H' := Aside0.mk H
               clear H
               obtain ⟨Ao35, co35, eo35⟩ := Kd.R_slice HO_6.out
               subst eo35
               have hcv36 := own_string (P := Try.prog) Try.underlying58 Try.underlying5 Try.underlying9 (Kd.own_of_R (h1 := fun _ => rfl) HO_6.out)
               go_wp2_with (first | ((with_reducible refine gate_builtin (b := .append) (xs := #[.tmp 51, .tmp 56]) rfl ?_); at_builtin; refine Kd.R_append k50 (w0 := w) w.heap.size rfl (.tmp 51) (.tmp 56) 25 50 (.agg #[(.int .i64 0), (.string ⟨#[]⟩)]) 24 rfl Try.underlying25 info50 rfl (by decide) (by omega) u3 x3_1 (⟨(wrap64 ((wrap64 (x4_1 + 1)) + t498)), strOfNums x6_3⟩ : S50) [.int .i64 (wrap64 ((wrap64 (x4_1 + 1)) + t498)), .string (strOfNums x6_3)] (fun _ => True) (fun _ => False) rfl rfl ?aP (fun _ hk => hk.elim) ?aF ?aO ?aB ?aS ?aL ?_; (case aP => exact k50_mkM _ _ _ (⟨(wrap64 ((wrap64 (x4_1 + 1)) + t498)), strOfNums x6_3⟩ : S50)); (case aB => exact (HB.out)); (case aF => exact (fun _ _ => trivial)); (case aO => exact (HO_3.out)); (case aS => exact (below_size (HB.out))); (case aL => have := LMc34.out; omega); intro v512 w37 ho hb hg hat; rw [← Ny511.out] at ho; replace HO_6 := Aside0.mk (Kd.R_over' (HO_6.out) (Kd.R_typed (HO_3.out)) (by decide) hg); replace HB := Aside0.mk (hb); have HO513 := Aside0.mk (ho); clear HO_3; clear ho hb hg hat))
               go_roundg k3
               case measure => have := HK1.out; have := HJ3.out; have := HK3.out; omega
               case rel => exact ⟨(y511), ((wrap64 ((wrap64 (x4_1 + 1)) + t498))), (wrap64 (x5_1 + 1)), (by first | rfl | (simp; done) | (simp [*]; done)), (by first | rfl | (simp; done) | (simp [*]; done)), H', ⟨by have := HK1.out; have := HJ3.out; have := HK3.out; omega⟩, ⟨HO513.out⟩, ⟨HB.out⟩⟩
              ·
               rw [if_neg c34] at H
               exact absurd H (by simp)
          ·
           rw [if_neg c25] at H
           exact absurd H (by simp)
         ·
          rw [if_neg c24] at H
          exact absurd H (by simp)
       ·
        rw [if_neg c8] at H
        exact absurd H (by simp)
      ·
       rw [if_neg c7] at H
       exact absurd H (by simp)
     ·
      replace c6 := Bool.eq_false_iff.mpr c6
      subst c6
      have H1 : (if (l0.length : Int) > 0 then (if 0 < (l0.length : Int) then ((busbarlaw0_Digit.f (rd l0 0) 2940 245).bind fun t492 => (if 0 ≤ t492 then (if (t492 : Int).toNat ≤ 281474976710656 then (if 1 < (x3_1.length : Int) then (some (x3_1.set (1 : Int).toNat (⟨(rd_T50 x3_1 1).f0, strOfNums (List.replicate (t492 : Int).toNat 0)⟩ : S50))) else (none)) else (none)) else (none))) else (none)) else (some x3_1)) = some r := by rw [if_neg (show ¬ (false = true) by decide)] at H; exact H
      clear H
      have H := H1
      clear H1
      by_cases c38 : (l0.length : Int) > 0
      ·
       rw [if_pos c38] at H
       have c38b0 : decide (0 < (l0.length : Int)) = true := decide_eq_true c38
       have c38b1 : decide (0 < l0.length) = true := decide_eq_true (by omega)
       clear c38
       by_cases c39 : 0 < (l0.length : Int)
       ·
        rw [if_pos c39] at H
        have c39b0 : decide (0 < (l0.length : Int)) = true := decide_eq_true c39
        have c39b1 : decide (0 < l0.length) = true := decide_eq_true (by omega)
        clear c39
        replace H := Option.bind_eq_some_iff.mp H
        obtain ⟨t492, A400, H⟩ := H
        have A40 := Aside0.mk A400
        clear A400
        by_cases c41 : 0 ≤ t492
        ·
         rw [if_pos c41] at H
         have c41b0 := eq_true c41
         have c41b1 : decide (0 ≤ t492) = true := decide_eq_true c41
         clear c41
         by_cases c42 : (t492 : Int).toNat ≤ 281474976710656
         ·
          rw [if_pos c42] at H
          have c42b0 := eq_true c42
          have c42b1 : decide ((t492 : Int).toNat ≤ 281474976710656) = true := decide_eq_true c42
          clear c42
          obtain ⟨y493, hy493⟩ : ∃ y_ : List Int, y_ = (List.replicate (t492 : Int).toNat 0) := ⟨_, rfl⟩
          replace H : (if 1 < (x3_1.length : Int) then (some (x3_1.set (1 : Int).toNat (⟨(rd_T50 x3_1 1).f0, strOfNums y493⟩ : S50))) else (none)) = some r := by first | (rw [hy493]; with_reducible exact H) | (have H2_ := (Option.bind_some _ _).symm.trans H; rw [hy493]; with_reducible exact H2_) | (have H2_ := (Option.bind_some _ _).symm.trans H; with_reducible exact H2_) | with_reducible exact H | (rw [hy493]; exact H) | exact H
          have Ny493 := Aside0.mk hy493
          clear hy493
          by_cases c43 : 1 < (x3_1.length : Int)
          ·
           rw [if_pos c43] at H
           have c43b0 : decide (1 < (x3_1.length : Int)) = true := decide_eq_true c43
           have c43b1 : decide (1 < x3_1.length) = true := decide_eq_true (by omega)
           clear c43
           obtain ⟨y496, hy496⟩ : ∃ y_ : List (S50), y_ = (x3_1.set (1 : Int).toNat (⟨(rd_T50 x3_1 1).f0, strOfNums y493⟩ : S50)) := ⟨_, rfl⟩
           replace H : (some y496) = some r := by first | (rw [hy496]; with_reducible exact H) | (have H2_ := (Option.bind_some _ _).symm.trans H; rw [hy496]; with_reducible exact H2_) | (have H2_ := (Option.bind_some _ _).symm.trans H; with_reducible exact H2_) | with_reducible exact H | (rw [hy496]; exact H) | exact H
           have Ny496 := Aside0.mk hy496
           clear hy496
           obtain rfl := Option.some.inj H
           have p491 : 0 ≤ (0 : Int) := (by omega)
           have q491 : 0 < (l0.length : Int) := of_decide_eq_true (by first | (with_reducible assumption) | assumption)
           obtain ⟨ad491, e491, hx491_0⟩ := Kd.at_int HR0.out 0 p491 q491
           cases e491
           have qi491 : (0 < l0.length) = True := eq_true (by omega)
           (try rw [show ((0 : Int)).toNat = 0 from rfl] at hx491_0)
           (try rw [Addr.add_zero'] at hx491_0)
           replace hx491_0 := (HB.out.cell (World.block_lt_of_cell? w _ hx491_0)).trans hx491_0
           replace p491 := eq_true p491
           replace q491 := eq_true q491
           go_wp2_with (first | ((with_reducible refine gate_callee (f := 27) rfl ?_); refine goesL_ (some 65) rfl rfl Try.func27 (by kernel_rfl) rfl #[.int .i64 (rd l0 0), .int .i64 2940, .int .i64 245] rfl (by (try simp only [List.map_toArray, List.map_cons, List.map_nil]); first | done | rfl | (simp only [List.length_drop, List.length_take]; rfl)) ?_; (with_reducible refine (busbarlaw0_Digit.calls (rd l0 0) 2940 245 t492 _ A40.out).mono ?_); rintro e w' ⟨rfl, ⟨nd, rfl⟩⟩; refine ⟨_, rfl, ?_⟩; (try (rw [drewN_self wc]; generalize hq_ : World.drewN wc _ = wc; replace HO_3 := Kd.dqR HO_3 hq_; replace HB := dqB HB hq_; clear hq_))) | ((with_reducible refine gate_dst (N := 66) rfl ?_); refine Kd.R_make (Kd.int .u8) _ 5 rfl (N := 66) rfl 58 _ _ rfl t492 rfl rfl Try.underlying58 (.int .u8 0) 1 info5 rfl (by decide) (by omega) 0 (ok := fun _ => True) (okp := fun _ => True) rfl (fun _ hk => hk) trivial (of_decide_eq_true (by first | (with_reducible assumption) | assumption)) (Nat.le_trans (Nat.mul_le_mul_right _ (of_decide_eq_true (by first | (with_reducible assumption) | assumption) : t492.toNat ≤ 281474976710656)) (by omega)) (Below.refl _ _) (Nat.le_refl _) ?_; intro v494 w45 ho46 hb hg_ hnew_; clear hg_ hnew_; (first | rw [← Ny493.out] at ho46 | (simp only [Int.reduceToNat] at ho46; rw [← Ny493.out] at ho46)); replace HO_3 := Aside0.mk (Kd.R_below (HO_3.out) hb); have HO495 := Aside0.mk (Kd.R_lower ho46 (below_size (HB.out))); replace HB := Aside0.mk (below_step (HB.out) hb); clear hb ho46; have hcv47 := own_string (P := Try.prog) Try.underlying58 Try.underlying5 Try.underlying9 (Kd.own_of_R (h1 := fun _ => rfl) HO495.out); have p44 : 0 ≤ (1 : Int) := (by omega); have q44 : (1 : Int) < ((x3_1.length : Int) : Int) := of_decide_eq_true (by first | (with_reducible assumption) | assumption); have qi44 : (1 < x3_1.length) = True := eq_true (by omega); obtain ⟨go44, co44, eo44, gb44, gl44, cl44, HG44⟩ := Kd.R_form HO_3.out (by omega); (first | cases eo44 | (injection eo44 with ea_ en_ ec_; (first | subst ea_ | (injection ea_ with ea_; subst ea_)); subst ec_; clear en_)); have GB44 := Aside0.mk gb44; have GG44 := Aside0.mk HG44; clear gb44 gl44 HG44; obtain ⟨ce44, hcl44, hM44, hcc44, hfr44⟩ := Kd.R_elem HO_3.out z50 (1 : Int) p44 q44; obtain rfl := k50_openM hM44; have hx44_0 : w45.cell? ⟨go44, (1 : Int).toNat * 2, none⟩ = some (.int .i64 ((rd_T50 x3_1 1).f0)) := hcc44 0 _ rfl; have hx44_1 : w45.cell? ⟨go44, (1 : Int).toNat * 2 + 1, none⟩ = some (.string ((rd_T50 x3_1 1).f1)) := hcc44 1 _ rfl; have hf44_0 : w45.frozen? ⟨go44, (1 : Int).toNat * 2, none⟩ = false := hfr44 0; have hf44_1 : w45.frozen? ⟨go44, (1 : Int).toNat * 2 + 1, none⟩ = false := hfr44 1; clear hcl44 hcc44 hfr44 hM44; (try rw [show ((1 : Int)).toNat = 1 from rfl] at hx44_0); (try simp only [Nat.reduceMul, Nat.zero_mul, Nat.zero_add, Nat.reduceAdd] at hx44_0); (try rw [show ((1 : Int)).toNat = 1 from rfl] at hf44_0); (try simp only [Nat.reduceMul, Nat.zero_mul, Nat.zero_add, Nat.reduceAdd] at hf44_0); (try rw [show ((1 : Int)).toNat = 1 from rfl] at hx44_1); (try simp only [Nat.reduceMul, Nat.zero_mul, Nat.zero_add, Nat.reduceAdd] at hx44_1); (try rw [show ((1 : Int)).toNat = 1 from rfl] at hf44_1); (try simp only [Nat.reduceMul, Nat.zero_mul, Nat.zero_add, Nat.reduceAdd] at hf44_1); replace p44 := eq_true p44; replace q44 := eq_true q44; have HX48 := Aside0.mk (show Kd.R k50 50 w45 w.heap.size (fun _ => True) (.slice (some ⟨go44, 0, none⟩) x3_1.length co44) x3_1 from (HO_3.out)); obtain ⟨ce48, hcl48, hM48, hcc48, hfr48⟩ := Kd.R_elem HX48.out z50 (1 : Int) (by omega) (by have h_ : (1 : Int) < ((x3_1.length : Int) : Int) := of_decide_eq_true (by first | (with_reducible assumption) | assumption); first | exact h_ | (have e_ := (Kd.R_reads' HO_3.out).1; omega) | simpa using h_); obtain rfl := k50_openM hM48; have HP48 := Kd.R_seg HX48.out (1 : Int) (by omega) (by have h_ : (1 : Int) < ((x3_1.length : Int) : Int) := of_decide_eq_true (by first | (with_reducible assumption) | assumption); first | exact h_ | (have e_ := (Kd.R_reads' HO_3.out).1; omega) | simpa using h_) (seg := [.string (strOfNums y493)]) (j := 1) hcl48 hcc48 (show 2 ≤ 2 from by decide) (x' := (⟨(rd_T50 x3_1 1).f0, strOfNums y493⟩ : S50)) (k50_mkM _ _ _ (⟨(rd_T50 x3_1 1).f0, strOfNums y493⟩ : S50) ) (fun _ hk => hk); have hx48_1 := hcc48 1 _ rfl; (try simp only [show (k50).sz = 2 from rfl, Nat.mul_one, Nat.add_zero] at hx48_1); (try rw [show ((1 : Int)).toNat = 1 from rfl] at hx48_1); (try simp only [Nat.reduceMul, Nat.zero_mul, Nat.zero_add, Nat.reduceAdd] at hx48_1); have hf48_1 := hfr48 1; (try simp only [show (k50).sz = 2 from rfl, Nat.mul_one, Nat.add_zero] at hf48_1); (try rw [show ((1 : Int)).toNat = 1 from rfl] at hf48_1); (try simp only [Nat.reduceMul, Nat.zero_mul, Nat.zero_add, Nat.reduceAdd] at hf48_1); clear hcl48 hcc48 hfr48 hM48) | ((with_reducible refine gate_store (t := 9) (p := 69) rfl ?_); refine store_event (t := 9) (p := 69) (v := ?vo_w49) (w1 := (w45.setCell ⟨go44, 3, none⟩ (.string (strOfNums y493)))) ?hg ?ho ?hn ?hr ?_; (case ho => rfl); (case hg => rfl); (case hn => rfl); (case hr => first | (go_simp; done) | (go_simp; rfl)); intro w49 hw; have hg : w45.grownBy w49 (some go44) := (by rw [hw]; exact HP48.2); have hp_ : Kd.R k50 50 w49 w.heap.size (fun _ => True) (.slice (some ⟨go44, 0, none⟩) x3_1.length co44) y496 := (by rw [hw, Ny496.out]; exact HP48.1); clear HP48; replace HO495 := Aside0.mk (Kd.R_over' (v := (.slice (some ⟨go44, 0, none⟩) x3_1.length co44)) (HO495.out) (Kd.R_typed HO_3.out) (by decide) hg); replace HO_3 := Aside0.mk (hp_); replace HB := Aside0.mk ((by rw [hw]; exact below_set (HB.out) GB44.out : Below w.heap.size w w49)); clear hg hw hp_))
           go_ret
           exact ⟨_, by first | rfl | (simp [errW_none, errW_some] <;> rfl) | (simp [*, errW_none, errW_some] <;> rfl), by (with_reducible repeat (first | apply Kd.R_alloc | apply Kd.R_drewN | apply Kd.R_drew)); exact HO_3.out, HB.out⟩
          ·
           rw [if_neg c43] at H
           exact absurd H (by simp)
         ·
          rw [if_neg c42] at H
          exact absurd H (by simp)
        ·
         rw [if_neg c41] at H
         exact absurd H (by simp)
       ·
        rw [if_neg c39] at H
        exact absurd H (by simp)
      ·
       rw [if_neg c38] at H
       have c38b0 : decide (0 < (l0.length : Int)) = false := decide_eq_false c38
       have c38b1 : decide (0 < l0.length) = false := decide_eq_false (by omega)
       clear c38
       obtain rfl := Option.some.inj H
       go_wp2
       go_ret
       exact ⟨_, by first | rfl | (simp [errW_none, errW_some] <;> rfl) | (simp [*, errW_none, errW_some] <;> rfl), by (with_reducible repeat (first | apply Kd.R_alloc | apply Kd.R_drewN | apply Kd.R_drew)); exact HO_3.out, HB.out⟩
end Go.Proofs.Ytjlbgopgeepiaaa.PConf
