/- Words and walks for ConfBounds (made of the session's own texts; each part by itself). -/
import Derived.Test.YtjlbgopgeepiaaaZConfBounds5
namespace Go.Proofs.Ytjlbgopgeepiaaa.PConf
open Go.RowKit Go.Proofs.YtjlbgopgeepiaaaW.PrintWords Go.Proofs.YtjlbgopgeepiaaaW.PrintLast Go.Proofs.YtjlbgopgeepiaaaW.PrintMore
attribute [local go_sem] max2_int min2_int max_two min_two max_three min_three max_four min_four plus_setCell_drewN plus_cell_same   -- for this text's walks alone
set_option linter.unusedVariables false
set_option linter.unusedSimpArgs false
mutual
def busbarlaw15_few.l0 : Nat → Int → List (S46) → List (S48) → Int → Int → Int → Int → Int → Int → Int → Int → Int → Int → List (S50) → Option (Bool)
 | 0, _, _, _, _, _, _, _, _, _, _, _, _, _, _ => none
 | k + 1, x3, x447000, x447001, x447002, x447003, x447004, x447005, x447006, x447007, x447008, x447009, x447010, x447011, x447012 => if x3 < (x447012.length : Int) then (busbarlaw15_few.j1 k x3 (decide (x3 ≤ 60)) x447000 x447001 x447002 x447003 x447004 x447005 x447006 x447007 x447008 x447009 x447010 x447011 x447012) else (busbarlaw15_few.j1 k x3 false x447000 x447001 x447002 x447003 x447004 x447005 x447006 x447007 x447008 x447009 x447010 x447011 x447012)
def busbarlaw15_few.j1 : Nat → Int → Bool → List (S46) → List (S48) → Int → Int → Int → Int → Int → Int → Int → Int → Int → Int → List (S50) → Option (Bool)
 | 0, _, _, _, _, _, _, _, _, _, _, _, _, _, _, _ => none
 | k + 1, x3, x12, x447000, x447001, x447002, x447003, x447004, x447005, x447006, x447007, x447008, x447009, x447010, x447011, x447012 => if x12 = true then (if 0 ≤ x3 then (if x3 < (x447012.length : Int) then (if (((rd_T50 x447012 x3).f1).size : Int) > 300 then (some false) else (busbarlaw15_few.l0 k (wrap64 (x3 + 1)) x447000 x447001 x447002 x447003 x447004 x447005 x447006 x447007 x447008 x447009 x447010 x447011 x447012)) else (none)) else (none)) else (if (x447000.length : Int) ≤ 40 then (if (x447001.length : Int) ≤ 40 then (some (decide ((x447012.length : Int) ≤ 60))) else (some false)) else (some false))
end
def busbarlaw15_few.f (k : Nat) (l0_0 : List (S46)) (l0_1 : List (S48)) (a0_2 : Int) (a0_3 : Int) (a0_4 : Int) (a0_5 : Int) (a0_6 : Int) (a0_7 : Int) (a0_8 : Int) (a0_9 : Int) (a0_10 : Int) (a0_11 : Int) (l0_12 : List (S50)) : Option (Bool) := busbarlaw15_few.l0 k 0 l0_0 l0_1 a0_2 a0_3 a0_4 a0_5 a0_6 a0_7 a0_8 a0_9 a0_10 a0_11 l0_12
theorem busbarlaw15_few.mono_l : ∀ k, (∀ y0 y1 y2 y3 y4 y5 y6 y7 y8 y9 y10 y11 y12 y13, LeO (busbarlaw15_few.l0 k y0 y1 y2 y3 y4 y5 y6 y7 y8 y9 y10 y11 y12 y13) (busbarlaw15_few.l0 (k + 1) y0 y1 y2 y3 y4 y5 y6 y7 y8 y9 y10 y11 y12 y13)) ∧ (∀ y0 y1 y2 y3 y4 y5 y6 y7 y8 y9 y10 y11 y12 y13 y14, LeO (busbarlaw15_few.j1 k y0 y1 y2 y3 y4 y5 y6 y7 y8 y9 y10 y11 y12 y13 y14) (busbarlaw15_few.j1 (k + 1) y0 y1 y2 y3 y4 y5 y6 y7 y8 y9 y10 y11 y12 y13 y14))
 | 0 => ⟨fun _ _ _ _ _ _ _ _ _ _ _ _ _ _ r h => by simp [busbarlaw15_few.l0] at h, fun _ _ _ _ _ _ _ _ _ _ _ _ _ _ _ r h => by simp [busbarlaw15_few.j1] at h⟩
 | k + 1 => by
  obtain ⟨ih0, ih1⟩ := busbarlaw15_few.mono_l k
  refine ⟨?_, ?_⟩
  ·
   intro y0 y1 y2 y3 y4 y5 y6 y7 y8 y9 y10 y11 y12 y13
   unfold busbarlaw15_few.l0
   repeat' first
   | (with_reducible exact ih0 _ _ _ _ _ _ _ _ _ _ _ _ _ _)
   | (with_reducible exact ih1 _ _ _ _ _ _ _ _ _ _ _ _ _ _ _)
   | (with_reducible exact LeO.refl _)
   | (with_reducible exact LeO.none _)
   | (with_reducible refine LeO.ite ?_ ?_)
   | (with_reducible refine LeO.bind ?_ (fun _ => ?_))
   | exact ih0 _ _ _ _ _ _ _ _ _ _ _ _ _ _
   | exact ih1 _ _ _ _ _ _ _ _ _ _ _ _ _ _ _
   | exact LeO.none _
   | refine LeO.ite ?_ ?_
   | refine LeO.bind ?_ (fun _ => ?_)
  ·
   intro y0 y1 y2 y3 y4 y5 y6 y7 y8 y9 y10 y11 y12 y13 y14
   unfold busbarlaw15_few.j1
   repeat' first
   | (with_reducible exact ih0 _ _ _ _ _ _ _ _ _ _ _ _ _ _)
   | (with_reducible exact ih1 _ _ _ _ _ _ _ _ _ _ _ _ _ _ _)
   | (with_reducible exact LeO.refl _)
   | (with_reducible exact LeO.none _)
   | (with_reducible refine LeO.ite ?_ ?_)
   | (with_reducible refine LeO.bind ?_ (fun _ => ?_))
   | exact ih0 _ _ _ _ _ _ _ _ _ _ _ _ _ _
   | exact ih1 _ _ _ _ _ _ _ _ _ _ _ _ _ _ _
   | exact LeO.none _
   | refine LeO.ite ?_ ?_
   | refine LeO.bind ?_ (fun _ => ?_)
theorem busbarlaw15_few.mono : ∀ a0 a1 a2 a3 a4 a5 a6 a7 a8 a9 a10 a11 a12 k, LeO (busbarlaw15_few.f k a0 a1 a2 a3 a4 a5 a6 a7 a8 a9 a10 a11 a12) (busbarlaw15_few.f (k + 1) a0 a1 a2 a3 a4 a5 a6 a7 a8 a9 a10 a11 a12) := by
 intro a0 a1 a2 a3 a4 a5 a6 a7 a8 a9 a10 a11 a12 k
 obtain ⟨ih0, ih1⟩ := busbarlaw15_few.mono_l k
 unfold busbarlaw15_few.f
 repeat' first
   | (with_reducible exact ih0 _ _ _ _ _ _ _ _ _ _ _ _ _ _)
   | (with_reducible exact ih1 _ _ _ _ _ _ _ _ _ _ _ _ _ _ _)
   | (with_reducible exact LeO.refl _)
   | (with_reducible exact LeO.none _)
   | (with_reducible refine LeO.ite ?_ ?_)
   | (with_reducible refine LeO.bind ?_ (fun _ => ?_))
   | exact ih0 _ _ _ _ _ _ _ _ _ _ _ _ _ _
   | exact ih1 _ _ _ _ _ _ _ _ _ _ _ _ _ _ _
   | exact LeO.none _
   | refine LeO.ite ?_ ?_
   | refine LeO.bind ?_ (fun _ => ?_)
set_option maxHeartbeats 8000000 in
set_option maxRecDepth 100000 in
theorem busbarlaw15_few.calls (k : Nat) (A0_0 : Option Addr) (c0_0 : Nat) (l0_0 : List (S46)) (A0_1 : Option Addr) (c0_1 : Nat) (l0_1 : List (S48)) (a0_2 : Int) (a0_3 : Int) (a0_4 : Int) (a0_5 : Int) (a0_6 : Int) (a0_7 : Int) (a0_8 : Int) (a0_9 : Int) (a0_10 : Int) (a0_11 : Int) (A0_12 : Option Addr) (c0_12 : Nat) (l0_12 : List (S50)) (r : Bool) (w : World) (hr0_0 : Kd.C k46 w A0_0 l0_0.length l0_0) (hc0_0 : l0_0.length ≤ c0_0) (hr0_1 : Kd.C k48 w A0_1 l0_1.length l0_1) (hc0_1 : l0_1.length ≤ c0_1) (hr0_12 : Kd.C k50 w A0_12 l0_12.length l0_12) (hc0_12 : l0_12.length ≤ c0_12) (h : busbarlaw15_few.f k l0_0 l0_1 a0_2 a0_3 a0_4 a0_5 a0_6 a0_7 a0_8 a0_9 a0_10 a0_11 l0_12 = some r) :
  Calls Try.prog 6 #[.agg #[.slice A0_0 l0_0.length c0_0, .slice A0_1 l0_1.length c0_1, .int .i64 a0_2, .int .i64 a0_3, .int .i64 a0_4, .int .i64 a0_5, .int .i64 a0_6, .int .i64 a0_7, .int .i64 a0_8, .int .i64 a0_9, .int .i64 a0_10, .int .u64 a0_11, .slice A0_12 l0_12.length c0_12]] w fun e w' => e = .returned (.bool r) ∧ Below w.heap.size w w' := by
 have hu27 := Try.underlying27
 have HR0_0 := Aside0.mk hr0_0
 have HC0_0 := Aside0.mk hc0_0
 clear hr0_0 hc0_0
 have HR0_1 := Aside0.mk hr0_1
 have HC0_1 := Aside0.mk hc0_1
 clear hr0_1 hc0_1
 have HR0_12 := Aside0.mk hr0_12
 have HC0_12 := Aside0.mk hc0_12
 clear hr0_12 hc0_12
 have HB := Aside0.mk (Below.refl w.heap.size w)
 have H : (busbarlaw15_few.l0 k 0 l0_0 l0_1 a0_2 a0_3 a0_4 a0_5 a0_6 a0_7 a0_8 a0_9 a0_10 a0_11 l0_12) = some r := h
 clear h
 have H' := Aside0.mk H
 clear H
 go_enter Try.func6, Try.ntmps6
 go_wp2_with (first | ((with_reducible refine gate_dst (N := 1) rfl ?_); (try (refine gate_guard (by rfl) ?_; dsimp only)); refine box_event ?hg (N := 1) ?hd (cs := #[.slice A0_0 l0_0.length c0_0, .slice A0_1 l0_1.length c0_1, .int .i64 a0_2, .int .i64 a0_3, .int .i64 a0_4, .int .i64 a0_5, .int .i64 a0_6, .int .i64 a0_7, .int .i64 a0_8, .int .i64 a0_9, .int .i64 a0_10, .int .u64 a0_11, .slice A0_12 l0_12.length c0_12]) (t := 27) ?hr ?_; (case hd => rfl); (case hg => rfl); (case hr => first | (go_simp; done) | (go_simp; rfl)); intro gb446 hg w2 hbox hb; have n0_ := Aside0.mk (below_step (by repeat (first | (with_reducible first | exact HB.out | apply below_alloc | apply pw_below_drewN | apply below_drew1) | exact HB.out)) hb); have n1_ := Aside0.mk (hbox); have n2_ := Aside0.mk ((by rw [hg]; exact (below_size (by repeat (first | (with_reducible first | exact HB.out | apply below_alloc | apply pw_below_drewN | apply below_drew1) | exact HB.out))) : w.heap.size ≤ gb446)); have n3_ := Aside0.mk ((by rw [hg]; exact (below_size (by repeat (first | (with_reducible first | exact HB.out | apply below_alloc | apply pw_below_drewN | apply below_drew1) | exact HB.out))) : w.heap.size ≤ gb446)); clear HB; have HB := n0_; have BK446 := n1_; have GW446 := n2_; have GE446 := n3_; clear n0_ n1_ n2_ n3_; clear hb hbox hg))
 go_loopg [3] k (fun kq v3 w' => ∃ (x3_1 : Int), v3 = .int .i64 x3_1 ∧ Aside0 (busbarlaw15_few.l0 kq x3_1 l0_0 l0_1 a0_2 a0_3 a0_4 a0_5 a0_6 a0_7 a0_8 a0_9 a0_10 a0_11 l0_12 = some r) ∧ Aside0 (kq ≤ k) ∧ Aside0 (w'.heap[gb446]? = some (.cells #[(.slice A0_0 l0_0.length c0_0), (.slice A0_1 l0_1.length c0_1), .int .i64 a0_2, .int .i64 a0_3, .int .i64 a0_4, .int .i64 a0_5, .int .i64 a0_6, .int .i64 a0_7, .int .i64 a0_8, .int .i64 a0_9, .int .i64 a0_10, .int .u64 a0_11, (.slice A0_12 l0_12.length c0_12)] 27 (0, 0))) ∧ Aside0 (Below w.heap.size w w'))
 case atStart => exact ⟨(0), (by first | rfl | (simp; done) | (simp [*]; done)), H', ⟨Nat.le_refl _⟩, ⟨by (with_reducible repeat (first | refine blk_drewN ?_ _ | refine blk_drew ?_ | refine blk_alloc ?_ _)); exact BK446.out⟩, ⟨by repeat (first | (with_reducible first | exact HB.out | apply below_alloc | apply pw_below_drewN | apply below_drew1 | refine below_set ?_ GE446.out) | exact HB.out)⟩⟩
 case round =>
  clear H'
  try clear p2
  obtain ⟨x3_1, rfl, HA, HK1, BK446, HB⟩ := hrel
  cases gk with
  | zero => exact absurd HA.out (by simp [busbarlaw15_few.l0])
  | succ k1 =>
   have H := HA.out
   clear HA
   simp only [busbarlaw15_few.l0] at H
   have HC3 := Aside0.mk H
   clear H
   go_upto_region 2 with (fail)
   go_cut [12] (fun v12 wc => ∃ (kq : Nat) (x12_2 : Bool), v12 = .bool x12_2 ∧ Aside0 (busbarlaw15_few.j1 kq x3_1 x12_2 l0_0 l0_1 a0_2 a0_3 a0_4 a0_5 a0_6 a0_7 a0_8 a0_9 a0_10 a0_11 l0_12 = some r) ∧ Aside0 (kq ≤ k1) ∧ Aside0 (wc.heap[gb446]? = some (.cells #[(.slice A0_0 l0_0.length c0_0), (.slice A0_1 l0_1.length c0_1), .int .i64 a0_2, .int .i64 a0_3, .int .i64 a0_4, .int .i64 a0_5, .int .i64 a0_6, .int .i64 a0_7, .int .i64 a0_8, .int .i64 a0_9, .int .i64 a0_10, .int .u64 a0_11, (.slice A0_12 l0_12.length c0_12)] 27 (0, 0))) ∧ Aside0 (Below w.heap.size w wc))
   case first =>
    have H := HC3.out
    clear HC3
    by_cases c4 : x3_1 < (l0_12.length : Int)
    ·
     rw [if_pos c4] at H
     have c4b0 : decide (x3_1 < (l0_12.length : Int)) = true := decide_eq_true c4
     clear c4
     (first | rw [c4b0] | (simp only [i64_w, i32_w]; rw [c4b0]) | skip)
     have H' := Aside0.mk H
     clear H
     have hcz5_0 : wr.cell? ⟨gb446, 0, none⟩ = some (.slice A0_0 l0_0.length c0_0) := (blk_cell BK446.out 0).trans rfl
     have hcz5_1 : wr.cell? ⟨gb446, 1, none⟩ = some (.slice A0_1 l0_1.length c0_1) := (blk_cell BK446.out 1).trans rfl
     have hcz5_2 : wr.cell? ⟨gb446, 2, none⟩ = some (.int .i64 a0_2) := (blk_cell BK446.out 2).trans rfl
     have hcz5_3 : wr.cell? ⟨gb446, 3, none⟩ = some (.int .i64 a0_3) := (blk_cell BK446.out 3).trans rfl
     have hcz5_4 : wr.cell? ⟨gb446, 4, none⟩ = some (.int .i64 a0_4) := (blk_cell BK446.out 4).trans rfl
     have hcz5_5 : wr.cell? ⟨gb446, 5, none⟩ = some (.int .i64 a0_5) := (blk_cell BK446.out 5).trans rfl
     have hcz5_6 : wr.cell? ⟨gb446, 6, none⟩ = some (.int .i64 a0_6) := (blk_cell BK446.out 6).trans rfl
     have hcz5_7 : wr.cell? ⟨gb446, 7, none⟩ = some (.int .i64 a0_7) := (blk_cell BK446.out 7).trans rfl
     have hcz5_8 : wr.cell? ⟨gb446, 8, none⟩ = some (.int .i64 a0_8) := (blk_cell BK446.out 8).trans rfl
     have hcz5_9 : wr.cell? ⟨gb446, 9, none⟩ = some (.int .i64 a0_9) := (blk_cell BK446.out 9).trans rfl
     have hcz5_10 : wr.cell? ⟨gb446, 10, none⟩ = some (.int .i64 a0_10) := (blk_cell BK446.out 10).trans rfl
     have hcz5_11 : wr.cell? ⟨gb446, 11, none⟩ = some (.int .u64 a0_11) := (blk_cell BK446.out 11).trans rfl
     have hcz5_12 : wr.cell? ⟨gb446, 12, none⟩ = some (.slice A0_12 l0_12.length c0_12) := (blk_cell BK446.out 12).trans rfl
     have hfz5_0 := blk_frozen BK446.out 0
     have hfz5_1 := blk_frozen BK446.out 1
     have hfz5_2 := blk_frozen BK446.out 2
     have hfz5_3 := blk_frozen BK446.out 3
     have hfz5_4 := blk_frozen BK446.out 4
     have hfz5_5 := blk_frozen BK446.out 5
     have hfz5_6 := blk_frozen BK446.out 6
     have hfz5_7 := blk_frozen BK446.out 7
     have hfz5_8 := blk_frozen BK446.out 8
     have hfz5_9 := blk_frozen BK446.out 9
     have hfz5_10 := blk_frozen BK446.out 10
     have hfz5_11 := blk_frozen BK446.out 11
     have hfz5_12 := blk_frozen BK446.out 12
     go_wp2
     go_meet
     case rel => exact ⟨_, (decide (x3_1 ≤ 60)), (by first | rfl | (simp; done) | (simp [*]; done)), H', ⟨by have := HK1.out; first | omega | exact Nat.le_refl _⟩, ⟨by (with_reducible repeat (first | refine blk_drewN ?_ _ | refine blk_drew ?_ | refine blk_alloc ?_ _)); exact BK446.out⟩, ⟨by repeat (first | (with_reducible first | exact HB.out | apply below_alloc | apply pw_below_drewN | apply below_drew1 | refine below_set ?_ GE446.out) | exact HB.out)⟩⟩
    ·
     rw [if_neg c4] at H
     have c4b0 : decide (x3_1 < (l0_12.length : Int)) = false := decide_eq_false c4
     clear c4
     (first | rw [c4b0] | (simp only [i64_w, i32_w]; rw [c4b0]) | skip)
     have H' := Aside0.mk H
     clear H
     have hcz6_0 : wr.cell? ⟨gb446, 0, none⟩ = some (.slice A0_0 l0_0.length c0_0) := (blk_cell BK446.out 0).trans rfl
     have hcz6_1 : wr.cell? ⟨gb446, 1, none⟩ = some (.slice A0_1 l0_1.length c0_1) := (blk_cell BK446.out 1).trans rfl
     have hcz6_2 : wr.cell? ⟨gb446, 2, none⟩ = some (.int .i64 a0_2) := (blk_cell BK446.out 2).trans rfl
     have hcz6_3 : wr.cell? ⟨gb446, 3, none⟩ = some (.int .i64 a0_3) := (blk_cell BK446.out 3).trans rfl
     have hcz6_4 : wr.cell? ⟨gb446, 4, none⟩ = some (.int .i64 a0_4) := (blk_cell BK446.out 4).trans rfl
     have hcz6_5 : wr.cell? ⟨gb446, 5, none⟩ = some (.int .i64 a0_5) := (blk_cell BK446.out 5).trans rfl
     have hcz6_6 : wr.cell? ⟨gb446, 6, none⟩ = some (.int .i64 a0_6) := (blk_cell BK446.out 6).trans rfl
     have hcz6_7 : wr.cell? ⟨gb446, 7, none⟩ = some (.int .i64 a0_7) := (blk_cell BK446.out 7).trans rfl
     have hcz6_8 : wr.cell? ⟨gb446, 8, none⟩ = some (.int .i64 a0_8) := (blk_cell BK446.out 8).trans rfl
     have hcz6_9 : wr.cell? ⟨gb446, 9, none⟩ = some (.int .i64 a0_9) := (blk_cell BK446.out 9).trans rfl
     have hcz6_10 : wr.cell? ⟨gb446, 10, none⟩ = some (.int .i64 a0_10) := (blk_cell BK446.out 10).trans rfl
     have hcz6_11 : wr.cell? ⟨gb446, 11, none⟩ = some (.int .u64 a0_11) := (blk_cell BK446.out 11).trans rfl
     have hcz6_12 : wr.cell? ⟨gb446, 12, none⟩ = some (.slice A0_12 l0_12.length c0_12) := (blk_cell BK446.out 12).trans rfl
     have hfz6_0 := blk_frozen BK446.out 0
     have hfz6_1 := blk_frozen BK446.out 1
     have hfz6_2 := blk_frozen BK446.out 2
     have hfz6_3 := blk_frozen BK446.out 3
     have hfz6_4 := blk_frozen BK446.out 4
     have hfz6_5 := blk_frozen BK446.out 5
     have hfz6_6 := blk_frozen BK446.out 6
     have hfz6_7 := blk_frozen BK446.out 7
     have hfz6_8 := blk_frozen BK446.out 8
     have hfz6_9 := blk_frozen BK446.out 9
     have hfz6_10 := blk_frozen BK446.out 10
     have hfz6_11 := blk_frozen BK446.out 11
     have hfz6_12 := blk_frozen BK446.out 12
     go_wp2
     go_meet
     case rel => exact ⟨_, (false), (by first | rfl | (simp; done) | (simp [*]; done)), H', ⟨by have := HK1.out; first | omega | exact Nat.le_refl _⟩, ⟨by (with_reducible repeat (first | refine blk_drewN ?_ _ | refine blk_drew ?_ | refine blk_alloc ?_ _)); exact BK446.out⟩, ⟨by repeat (first | (with_reducible first | exact HB.out | apply below_alloc | apply pw_below_drewN | apply below_drew1 | refine below_set ?_ GE446.out) | exact HB.out)⟩⟩
   case rest =>
    clear HC3
    try clear p2
    try clear c4
    try clear c4b0
    try clear c6
    try clear hcz5_0
    try clear hcz5_1
    try clear hcz5_10
    try clear hcz5_11
    try clear hcz5_12
    try clear hcz5_2
    try clear hcz5_3
    try clear hcz5_4
    try clear hcz5_5
    try clear hcz5_6
    try clear hcz5_7
    try clear hcz5_8
    try clear hcz5_9
    try clear hcz6_0
    try clear hcz6_1
    try clear hcz6_10
    try clear hcz6_11
    try clear hcz6_12
    try clear hcz6_2
    try clear hcz6_3
    try clear hcz6_4
    try clear hcz6_5
    try clear hcz6_6
    try clear hcz6_7
    try clear hcz6_8
    try clear hcz6_9
    try clear hfz5_0
    try clear hfz5_1
    try clear hfz5_10
    try clear hfz5_11
    try clear hfz5_12
    try clear hfz5_2
    try clear hfz5_3
    try clear hfz5_4
    try clear hfz5_5
    try clear hfz5_6
    try clear hfz5_7
    try clear hfz5_8
    try clear hfz5_9
    try clear hfz6_0
    try clear hfz6_1
    try clear hfz6_10
    try clear hfz6_11
    try clear hfz6_12
    try clear hfz6_2
    try clear hfz6_3
    try clear hfz6_4
    try clear hfz6_5
    try clear hfz6_6
    try clear hfz6_7
    try clear hfz6_8
    try clear hfz6_9
    try clear p2
    obtain ⟨kq, x12_2, rfl, HA, HJ2, BK446, HB⟩ := hcut
    cases kq with
    | zero => exact absurd HA.out (by simp [busbarlaw15_few.j1])
    | succ kj2 =>
     have H := HA.out
     clear HA
     simp only [busbarlaw15_few.j1] at H
     by_cases c7 : x12_2 = true
     ·
      subst c7
      have H1 : (if 0 ≤ x3_1 then (if x3_1 < (l0_12.length : Int) then (if (((rd_T50 l0_12 x3_1).f1).size : Int) > 300 then (some false) else (busbarlaw15_few.l0 kj2 (wrap64 (x3_1 + 1)) l0_0 l0_1 a0_2 a0_3 a0_4 a0_5 a0_6 a0_7 a0_8 a0_9 a0_10 a0_11 l0_12)) else (none)) else (none)) = some r := by rw [if_pos rfl] at H; exact H
      clear H
      have H := H1
      clear H1
      by_cases c8 : 0 ≤ x3_1
      ·
       rw [if_pos c8] at H
       have c8b0 : decide (0 ≤ x3_1) = true := decide_eq_true c8
       clear c8
       by_cases c9 : x3_1 < (l0_12.length : Int)
       ·
        rw [if_pos c9] at H
        have c9b0 : decide (x3_1 < (l0_12.length : Int)) = true := decide_eq_true c9
        clear c9
        by_cases c10 : (((rd_T50 l0_12 x3_1).f1).size : Int) > 300
        ·
         rw [if_pos c10] at H
         have c10b0 : decide (300 < (((rd_T50 l0_12 x3_1).f1).size : Int)) = true := decide_eq_true c10
         have c10b1 : decide (300 < ((rd_T50 l0_12 x3_1).f1).size) = true := decide_eq_true (by omega)
         clear c10
         obtain rfl := Option.some.inj H
         have hcz11_0 : wc.cell? ⟨gb446, 0, none⟩ = some (.slice A0_0 l0_0.length c0_0) := (blk_cell BK446.out 0).trans rfl
         have hcz11_1 : wc.cell? ⟨gb446, 1, none⟩ = some (.slice A0_1 l0_1.length c0_1) := (blk_cell BK446.out 1).trans rfl
         have hcz11_2 : wc.cell? ⟨gb446, 2, none⟩ = some (.int .i64 a0_2) := (blk_cell BK446.out 2).trans rfl
         have hcz11_3 : wc.cell? ⟨gb446, 3, none⟩ = some (.int .i64 a0_3) := (blk_cell BK446.out 3).trans rfl
         have hcz11_4 : wc.cell? ⟨gb446, 4, none⟩ = some (.int .i64 a0_4) := (blk_cell BK446.out 4).trans rfl
         have hcz11_5 : wc.cell? ⟨gb446, 5, none⟩ = some (.int .i64 a0_5) := (blk_cell BK446.out 5).trans rfl
         have hcz11_6 : wc.cell? ⟨gb446, 6, none⟩ = some (.int .i64 a0_6) := (blk_cell BK446.out 6).trans rfl
         have hcz11_7 : wc.cell? ⟨gb446, 7, none⟩ = some (.int .i64 a0_7) := (blk_cell BK446.out 7).trans rfl
         have hcz11_8 : wc.cell? ⟨gb446, 8, none⟩ = some (.int .i64 a0_8) := (blk_cell BK446.out 8).trans rfl
         have hcz11_9 : wc.cell? ⟨gb446, 9, none⟩ = some (.int .i64 a0_9) := (blk_cell BK446.out 9).trans rfl
         have hcz11_10 : wc.cell? ⟨gb446, 10, none⟩ = some (.int .i64 a0_10) := (blk_cell BK446.out 10).trans rfl
         have hcz11_11 : wc.cell? ⟨gb446, 11, none⟩ = some (.int .u64 a0_11) := (blk_cell BK446.out 11).trans rfl
         have hcz11_12 : wc.cell? ⟨gb446, 12, none⟩ = some (.slice A0_12 l0_12.length c0_12) := (blk_cell BK446.out 12).trans rfl
         have hfz11_0 := blk_frozen BK446.out 0
         have hfz11_1 := blk_frozen BK446.out 1
         have hfz11_2 := blk_frozen BK446.out 2
         have hfz11_3 := blk_frozen BK446.out 3
         have hfz11_4 := blk_frozen BK446.out 4
         have hfz11_5 := blk_frozen BK446.out 5
         have hfz11_6 := blk_frozen BK446.out 6
         have hfz11_7 := blk_frozen BK446.out 7
         have hfz11_8 := blk_frozen BK446.out 8
         have hfz11_9 := blk_frozen BK446.out 9
         have hfz11_10 := blk_frozen BK446.out 10
         have hfz11_11 := blk_frozen BK446.out 11
         have hfz11_12 := blk_frozen BK446.out 12
         have p447 : 0 ≤ (x3_1 : Int) := of_decide_eq_true (by first | (with_reducible assumption) | assumption)
         have q447 : x3_1 < (l0_12.length : Int) := of_decide_eq_true (by first | (with_reducible assumption) | assumption)
         obtain ⟨ad447, e447, hx447_0, hx447_1⟩ := at_T50 HR0_12.out x3_1 p447 q447
         cases e447
         replace hx447_0 := (HB.out.cell (World.block_lt_of_cell? w _ hx447_0)).trans hx447_0
         replace hx447_1 := (HB.out.cell (World.block_lt_of_cell? w _ hx447_1)).trans hx447_1
         replace p447 := eq_true p447
         replace q447 := eq_true q447
         go_wp2
         go_ret
         exact ⟨by first | rfl | (simp [errW_none, errW_some] <;> rfl) | (simp [*, errW_none, errW_some] <;> rfl), by repeat (first | (with_reducible first | exact HB.out | apply below_alloc | apply pw_below_drewN | apply below_drew1 | refine below_set ?_ GE446.out) | exact HB.out)⟩
        ·
         rw [if_neg c10] at H
         have c10b0 : decide (300 < (((rd_T50 l0_12 x3_1).f1).size : Int)) = false := decide_eq_false c10
         have c10b1 : decide (300 < ((rd_T50 l0_12 x3_1).f1).size) = false := decide_eq_false (by omega)
         clear c10
         have H' := Aside0.mk H
         clear H
         have hcz12_0 : wc.cell? ⟨gb446, 0, none⟩ = some (.slice A0_0 l0_0.length c0_0) := (blk_cell BK446.out 0).trans rfl
         have hcz12_1 : wc.cell? ⟨gb446, 1, none⟩ = some (.slice A0_1 l0_1.length c0_1) := (blk_cell BK446.out 1).trans rfl
         have hcz12_2 : wc.cell? ⟨gb446, 2, none⟩ = some (.int .i64 a0_2) := (blk_cell BK446.out 2).trans rfl
         have hcz12_3 : wc.cell? ⟨gb446, 3, none⟩ = some (.int .i64 a0_3) := (blk_cell BK446.out 3).trans rfl
         have hcz12_4 : wc.cell? ⟨gb446, 4, none⟩ = some (.int .i64 a0_4) := (blk_cell BK446.out 4).trans rfl
         have hcz12_5 : wc.cell? ⟨gb446, 5, none⟩ = some (.int .i64 a0_5) := (blk_cell BK446.out 5).trans rfl
         have hcz12_6 : wc.cell? ⟨gb446, 6, none⟩ = some (.int .i64 a0_6) := (blk_cell BK446.out 6).trans rfl
         have hcz12_7 : wc.cell? ⟨gb446, 7, none⟩ = some (.int .i64 a0_7) := (blk_cell BK446.out 7).trans rfl
         have hcz12_8 : wc.cell? ⟨gb446, 8, none⟩ = some (.int .i64 a0_8) := (blk_cell BK446.out 8).trans rfl
         have hcz12_9 : wc.cell? ⟨gb446, 9, none⟩ = some (.int .i64 a0_9) := (blk_cell BK446.out 9).trans rfl
         have hcz12_10 : wc.cell? ⟨gb446, 10, none⟩ = some (.int .i64 a0_10) := (blk_cell BK446.out 10).trans rfl
         have hcz12_11 : wc.cell? ⟨gb446, 11, none⟩ = some (.int .u64 a0_11) := (blk_cell BK446.out 11).trans rfl
         have hcz12_12 : wc.cell? ⟨gb446, 12, none⟩ = some (.slice A0_12 l0_12.length c0_12) := (blk_cell BK446.out 12).trans rfl
         have hfz12_0 := blk_frozen BK446.out 0
         have hfz12_1 := blk_frozen BK446.out 1
         have hfz12_2 := blk_frozen BK446.out 2
         have hfz12_3 := blk_frozen BK446.out 3
         have hfz12_4 := blk_frozen BK446.out 4
         have hfz12_5 := blk_frozen BK446.out 5
         have hfz12_6 := blk_frozen BK446.out 6
         have hfz12_7 := blk_frozen BK446.out 7
         have hfz12_8 := blk_frozen BK446.out 8
         have hfz12_9 := blk_frozen BK446.out 9
         have hfz12_10 := blk_frozen BK446.out 10
         have hfz12_11 := blk_frozen BK446.out 11
         have hfz12_12 := blk_frozen BK446.out 12
         have p447 : 0 ≤ (x3_1 : Int) := of_decide_eq_true (by first | (with_reducible assumption) | assumption)
         have q447 : x3_1 < (l0_12.length : Int) := of_decide_eq_true (by first | (with_reducible assumption) | assumption)
         obtain ⟨ad447, e447, hx447_0, hx447_1⟩ := at_T50 HR0_12.out x3_1 p447 q447
         cases e447
         replace hx447_0 := (HB.out.cell (World.block_lt_of_cell? w _ hx447_0)).trans hx447_0
         replace hx447_1 := (HB.out.cell (World.block_lt_of_cell? w _ hx447_1)).trans hx447_1
         replace p447 := eq_true p447
         replace q447 := eq_true q447
         go_wp2
         go_roundg kj2
         case measure => have := HK1.out; have := HJ2.out; omega
         case rel => exact ⟨(wrap64 (x3_1 + 1)), (by first | rfl | (simp; done) | (simp [*]; done)), H', ⟨by have := HK1.out; have := HJ2.out; omega⟩, ⟨by (with_reducible repeat (first | refine blk_drewN ?_ _ | refine blk_drew ?_ | refine blk_alloc ?_ _)); exact BK446.out⟩, ⟨by repeat (first | (with_reducible first | exact HB.out | apply below_alloc | apply pw_below_drewN | apply below_drew1 | refine below_set ?_ GE446.out) | exact HB.out)⟩⟩
       ·
        rw [if_neg c9] at H
        exact absurd H (by simp)
      ·
       rw [if_neg c8] at H
       exact absurd H (by simp)
     ·
      replace c7 := Bool.eq_false_iff.mpr c7
      subst c7
      have H1 : (if (l0_0.length : Int) ≤ 40 then (if (l0_1.length : Int) ≤ 40 then (some (decide ((l0_12.length : Int) ≤ 60))) else (some false)) else (some false)) = some r := by rw [if_neg (show ¬ (false = true) by decide)] at H; exact H
      clear H
      have H := H1
      clear H1
      by_cases c13 : (l0_0.length : Int) ≤ 40
      ·
       rw [if_pos c13] at H
       have c13b0 : decide ((l0_0.length : Int) ≤ 40) = true := decide_eq_true c13
       have c13b1 : decide (l0_0.length ≤ 40) = true := decide_eq_true (by omega)
       clear c13
       by_cases c14 : (l0_1.length : Int) ≤ 40
       ·
        rw [if_pos c14] at H
        have c14b0 : decide ((l0_1.length : Int) ≤ 40) = true := decide_eq_true c14
        have c14b1 : decide (l0_1.length ≤ 40) = true := decide_eq_true (by omega)
        clear c14
        obtain rfl := Option.some.inj H
        have hcz15_0 : wc.cell? ⟨gb446, 0, none⟩ = some (.slice A0_0 l0_0.length c0_0) := (blk_cell BK446.out 0).trans rfl
        have hcz15_1 : wc.cell? ⟨gb446, 1, none⟩ = some (.slice A0_1 l0_1.length c0_1) := (blk_cell BK446.out 1).trans rfl
        have hcz15_2 : wc.cell? ⟨gb446, 2, none⟩ = some (.int .i64 a0_2) := (blk_cell BK446.out 2).trans rfl
        have hcz15_3 : wc.cell? ⟨gb446, 3, none⟩ = some (.int .i64 a0_3) := (blk_cell BK446.out 3).trans rfl
        have hcz15_4 : wc.cell? ⟨gb446, 4, none⟩ = some (.int .i64 a0_4) := (blk_cell BK446.out 4).trans rfl
        have hcz15_5 : wc.cell? ⟨gb446, 5, none⟩ = some (.int .i64 a0_5) := (blk_cell BK446.out 5).trans rfl
        have hcz15_6 : wc.cell? ⟨gb446, 6, none⟩ = some (.int .i64 a0_6) := (blk_cell BK446.out 6).trans rfl
        have hcz15_7 : wc.cell? ⟨gb446, 7, none⟩ = some (.int .i64 a0_7) := (blk_cell BK446.out 7).trans rfl
        have hcz15_8 : wc.cell? ⟨gb446, 8, none⟩ = some (.int .i64 a0_8) := (blk_cell BK446.out 8).trans rfl
        have hcz15_9 : wc.cell? ⟨gb446, 9, none⟩ = some (.int .i64 a0_9) := (blk_cell BK446.out 9).trans rfl
        have hcz15_10 : wc.cell? ⟨gb446, 10, none⟩ = some (.int .i64 a0_10) := (blk_cell BK446.out 10).trans rfl
        have hcz15_11 : wc.cell? ⟨gb446, 11, none⟩ = some (.int .u64 a0_11) := (blk_cell BK446.out 11).trans rfl
        have hcz15_12 : wc.cell? ⟨gb446, 12, none⟩ = some (.slice A0_12 l0_12.length c0_12) := (blk_cell BK446.out 12).trans rfl
        have hfz15_0 := blk_frozen BK446.out 0
        have hfz15_1 := blk_frozen BK446.out 1
        have hfz15_2 := blk_frozen BK446.out 2
        have hfz15_3 := blk_frozen BK446.out 3
        have hfz15_4 := blk_frozen BK446.out 4
        have hfz15_5 := blk_frozen BK446.out 5
        have hfz15_6 := blk_frozen BK446.out 6
        have hfz15_7 := blk_frozen BK446.out 7
        have hfz15_8 := blk_frozen BK446.out 8
        have hfz15_9 := blk_frozen BK446.out 9
        have hfz15_10 := blk_frozen BK446.out 10
        have hfz15_11 := blk_frozen BK446.out 11
        have hfz15_12 := blk_frozen BK446.out 12
        go_wp2
        go_ret
        exact ⟨by first | rfl | (simp [errW_none, errW_some] <;> rfl) | (simp [*, errW_none, errW_some] <;> rfl), by repeat (first | (with_reducible first | exact HB.out | apply below_alloc | apply pw_below_drewN | apply below_drew1 | refine below_set ?_ GE446.out) | exact HB.out)⟩
       ·
        rw [if_neg c14] at H
        have c14b0 : decide ((l0_1.length : Int) ≤ 40) = false := decide_eq_false c14
        have c14b1 : decide (l0_1.length ≤ 40) = false := decide_eq_false (by omega)
        clear c14
        obtain rfl := Option.some.inj H
        have hcz16_0 : wc.cell? ⟨gb446, 0, none⟩ = some (.slice A0_0 l0_0.length c0_0) := (blk_cell BK446.out 0).trans rfl
        have hcz16_1 : wc.cell? ⟨gb446, 1, none⟩ = some (.slice A0_1 l0_1.length c0_1) := (blk_cell BK446.out 1).trans rfl
        have hcz16_2 : wc.cell? ⟨gb446, 2, none⟩ = some (.int .i64 a0_2) := (blk_cell BK446.out 2).trans rfl
        have hcz16_3 : wc.cell? ⟨gb446, 3, none⟩ = some (.int .i64 a0_3) := (blk_cell BK446.out 3).trans rfl
        have hcz16_4 : wc.cell? ⟨gb446, 4, none⟩ = some (.int .i64 a0_4) := (blk_cell BK446.out 4).trans rfl
        have hcz16_5 : wc.cell? ⟨gb446, 5, none⟩ = some (.int .i64 a0_5) := (blk_cell BK446.out 5).trans rfl
        have hcz16_6 : wc.cell? ⟨gb446, 6, none⟩ = some (.int .i64 a0_6) := (blk_cell BK446.out 6).trans rfl
        have hcz16_7 : wc.cell? ⟨gb446, 7, none⟩ = some (.int .i64 a0_7) := (blk_cell BK446.out 7).trans rfl
        have hcz16_8 : wc.cell? ⟨gb446, 8, none⟩ = some (.int .i64 a0_8) := (blk_cell BK446.out 8).trans rfl
        have hcz16_9 : wc.cell? ⟨gb446, 9, none⟩ = some (.int .i64 a0_9) := (blk_cell BK446.out 9).trans rfl
        have hcz16_10 : wc.cell? ⟨gb446, 10, none⟩ = some (.int .i64 a0_10) := (blk_cell BK446.out 10).trans rfl
        have hcz16_11 : wc.cell? ⟨gb446, 11, none⟩ = some (.int .u64 a0_11) := (blk_cell BK446.out 11).trans rfl
        have hcz16_12 : wc.cell? ⟨gb446, 12, none⟩ = some (.slice A0_12 l0_12.length c0_12) := (blk_cell BK446.out 12).trans rfl
        have hfz16_0 := blk_frozen BK446.out 0
        have hfz16_1 := blk_frozen BK446.out 1
        have hfz16_2 := blk_frozen BK446.out 2
        have hfz16_3 := blk_frozen BK446.out 3
        have hfz16_4 := blk_frozen BK446.out 4
        have hfz16_5 := blk_frozen BK446.out 5
        have hfz16_6 := blk_frozen BK446.out 6
        have hfz16_7 := blk_frozen BK446.out 7
        have hfz16_8 := blk_frozen BK446.out 8
        have hfz16_9 := blk_frozen BK446.out 9
        have hfz16_10 := blk_frozen BK446.out 10
        have hfz16_11 := blk_frozen BK446.out 11
        have hfz16_12 := blk_frozen BK446.out 12
        go_wp2
        go_ret
        exact ⟨by first | rfl | (simp [errW_none, errW_some] <;> rfl) | (simp [*, errW_none, errW_some] <;> rfl), by repeat (first | (with_reducible first | exact HB.out | apply below_alloc | apply pw_below_drewN | apply below_drew1 | refine below_set ?_ GE446.out) | exact HB.out)⟩
      ·
       rw [if_neg c13] at H
       have c13b0 : decide ((l0_0.length : Int) ≤ 40) = false := decide_eq_false c13
       have c13b1 : decide (l0_0.length ≤ 40) = false := decide_eq_false (by omega)
       clear c13
       obtain rfl := Option.some.inj H
       have hcz17_0 : wc.cell? ⟨gb446, 0, none⟩ = some (.slice A0_0 l0_0.length c0_0) := (blk_cell BK446.out 0).trans rfl
       have hcz17_1 : wc.cell? ⟨gb446, 1, none⟩ = some (.slice A0_1 l0_1.length c0_1) := (blk_cell BK446.out 1).trans rfl
       have hcz17_2 : wc.cell? ⟨gb446, 2, none⟩ = some (.int .i64 a0_2) := (blk_cell BK446.out 2).trans rfl
       have hcz17_3 : wc.cell? ⟨gb446, 3, none⟩ = some (.int .i64 a0_3) := (blk_cell BK446.out 3).trans rfl
       have hcz17_4 : wc.cell? ⟨gb446, 4, none⟩ = some (.int .i64 a0_4) := (blk_cell BK446.out 4).trans rfl
       have hcz17_5 : wc.cell? ⟨gb446, 5, none⟩ = some (.int .i64 a0_5) := (blk_cell BK446.out 5).trans rfl
       have hcz17_6 : wc.cell? ⟨gb446, 6, none⟩ = some (.int .i64 a0_6) := (blk_cell BK446.out 6).trans rfl
       have hcz17_7 : wc.cell? ⟨gb446, 7, none⟩ = some (.int .i64 a0_7) := (blk_cell BK446.out 7).trans rfl
       have hcz17_8 : wc.cell? ⟨gb446, 8, none⟩ = some (.int .i64 a0_8) := (blk_cell BK446.out 8).trans rfl
       have hcz17_9 : wc.cell? ⟨gb446, 9, none⟩ = some (.int .i64 a0_9) := (blk_cell BK446.out 9).trans rfl
       have hcz17_10 : wc.cell? ⟨gb446, 10, none⟩ = some (.int .i64 a0_10) := (blk_cell BK446.out 10).trans rfl
       have hcz17_11 : wc.cell? ⟨gb446, 11, none⟩ = some (.int .u64 a0_11) := (blk_cell BK446.out 11).trans rfl
       have hcz17_12 : wc.cell? ⟨gb446, 12, none⟩ = some (.slice A0_12 l0_12.length c0_12) := (blk_cell BK446.out 12).trans rfl
       have hfz17_0 := blk_frozen BK446.out 0
       have hfz17_1 := blk_frozen BK446.out 1
       have hfz17_2 := blk_frozen BK446.out 2
       have hfz17_3 := blk_frozen BK446.out 3
       have hfz17_4 := blk_frozen BK446.out 4
       have hfz17_5 := blk_frozen BK446.out 5
       have hfz17_6 := blk_frozen BK446.out 6
       have hfz17_7 := blk_frozen BK446.out 7
       have hfz17_8 := blk_frozen BK446.out 8
       have hfz17_9 := blk_frozen BK446.out 9
       have hfz17_10 := blk_frozen BK446.out 10
       have hfz17_11 := blk_frozen BK446.out 11
       have hfz17_12 := blk_frozen BK446.out 12
       go_wp2
       go_ret
       exact ⟨by first | rfl | (simp [errW_none, errW_some] <;> rfl) | (simp [*, errW_none, errW_some] <;> rfl), by repeat (first | (with_reducible first | exact HB.out | apply below_alloc | apply pw_below_drewN | apply below_drew1 | refine below_set ?_ GE446.out) | exact HB.out)⟩
end Go.Proofs.Ytjlbgopgeepiaaa.PConf
namespace Go.Proofs.Ytjlbgopgeepiaaa.PConf
open Go.RowKit Go.Proofs.YtjlbgopgeepiaaaW.PrintWords Go.Proofs.YtjlbgopgeepiaaaW.PrintLast Go.Proofs.YtjlbgopgeepiaaaW.PrintMore
attribute [local go_sem] max2_int min2_int max_two min_two max_three min_three max_four min_four plus_setCell_drewN plus_cell_same   -- for this text's walks alone
set_option linter.unusedVariables false
set_option linter.unusedSimpArgs false
def busbarref12_Right.f (a0_0 : Int) (a0_1 : Int) (a0_2 : Int) : Option (Bool) := if a0_0 ≥ 0 then (if a0_0 ≤ 3 then (if a0_1 ≥ 0 then (if a0_2 ≤ 65536 then (some (decide (a0_1 < a0_2))) else (some false)) else (some false)) else (some false)) else (some false)
set_option maxHeartbeats 8000000 in
set_option maxRecDepth 100000 in
theorem busbarref12_Right.calls (a0_0 : Int) (a0_1 : Int) (a0_2 : Int) (r : Bool) (w : World) (h : busbarref12_Right.f a0_0 a0_1 a0_2 = some r) :
  Calls Try.prog 54 #[.agg #[.int .i64 a0_0, .int .i64 a0_1, .int .i64 a0_2]] w fun e w' => e = .returned (.bool r) ∧ Below w.heap.size w w' := by
 have hu46 := Try.underlying46
 have HB := Aside0.mk (Below.refl w.heap.size w)
 have H : (if a0_0 ≥ 0 then (if a0_0 ≤ 3 then (if a0_1 ≥ 0 then (if a0_2 ≤ 65536 then (some (decide (a0_1 < a0_2))) else (some false)) else (some false)) else (some false)) else (some false)) = some r := h
 clear h
 by_cases c2 : a0_0 ≥ 0
 ·
  rw [if_pos c2] at H
  have c2b0 : decide (0 ≤ a0_0) = true := decide_eq_true c2
  clear c2
  by_cases c3 : a0_0 ≤ 3
  ·
   rw [if_pos c3] at H
   have c3b0 : decide (a0_0 ≤ 3) = true := decide_eq_true c3
   clear c3
   by_cases c4 : a0_1 ≥ 0
   ·
    rw [if_pos c4] at H
    have c4b0 : decide (0 ≤ a0_1) = true := decide_eq_true c4
    clear c4
    by_cases c5 : a0_2 ≤ 65536
    ·
     rw [if_pos c5] at H
     have c5b0 : decide (a0_2 ≤ 65536) = true := decide_eq_true c5
     clear c5
     obtain rfl := Option.some.inj H
     go_enter Try.func54, Try.ntmps54
     go_wp2_with (first | ((with_reducible refine gate_dst (N := 1) rfl ?_); refine box_event ?hg (N := 1) ?hd (cs := #[.int .i64 a0_0, .int .i64 a0_1, .int .i64 a0_2]) (t := 46) ?hr ?_; (case hd => rfl); (case hg => rfl); (case hr => first | (go_simp; done) | (go_simp; rfl)); intro gb448 hg w6 hbox hb; have n0_ := Aside0.mk (below_step (by repeat (first | (with_reducible first | exact HB.out | apply below_alloc | apply pw_below_drewN | apply below_drew1) | exact HB.out)) hb); have n1_ := Aside0.mk (hbox); have n2_ := Aside0.mk ((by rw [hg]; exact (below_size (by repeat (first | (with_reducible first | exact HB.out | apply below_alloc | apply pw_below_drewN | apply below_drew1) | exact HB.out))) : w.heap.size ≤ gb448)); have n3_ := Aside0.mk ((by rw [hg]; exact (below_size (by repeat (first | (with_reducible first | exact HB.out | apply below_alloc | apply pw_below_drewN | apply below_drew1) | exact HB.out))) : w.heap.size ≤ gb448)); clear HB; have HB := n0_; have BK448 := n1_; have GW448 := n2_; have GE448 := n3_; clear n0_ n1_ n2_ n3_; clear hb hbox hg; have hcz7_0 : w6.cell? ⟨gb448, 0, none⟩ = some (.int .i64 a0_0) := (blk_cell BK448.out 0).trans rfl; have hcz7_1 : w6.cell? ⟨gb448, 1, none⟩ = some (.int .i64 a0_1) := (blk_cell BK448.out 1).trans rfl; have hcz7_2 : w6.cell? ⟨gb448, 2, none⟩ = some (.int .i64 a0_2) := (blk_cell BK448.out 2).trans rfl; have hfz7_0 := blk_frozen BK448.out 0; have hfz7_1 := blk_frozen BK448.out 1; have hfz7_2 := blk_frozen BK448.out 2))
     go_ret
     exact ⟨by first | rfl | (simp [errW_none, errW_some] <;> rfl) | (simp [*, errW_none, errW_some] <;> rfl), by repeat (first | (with_reducible first | exact HB.out | apply below_alloc | apply pw_below_drewN | apply below_drew1 | refine below_set ?_ GE448.out) | exact HB.out)⟩
    ·
     rw [if_neg c5] at H
     have c5b0 : decide (a0_2 ≤ 65536) = false := decide_eq_false c5
     clear c5
     obtain rfl := Option.some.inj H
     go_enter Try.func54, Try.ntmps54
     go_wp2_with (first | ((with_reducible refine gate_dst (N := 1) rfl ?_); refine box_event ?hg (N := 1) ?hd (cs := #[.int .i64 a0_0, .int .i64 a0_1, .int .i64 a0_2]) (t := 46) ?hr ?_; (case hd => rfl); (case hg => rfl); (case hr => first | (go_simp; done) | (go_simp; rfl)); intro gb448 hg w8 hbox hb; have n0_ := Aside0.mk (below_step (by repeat (first | (with_reducible first | exact HB.out | apply below_alloc | apply pw_below_drewN | apply below_drew1) | exact HB.out)) hb); have n1_ := Aside0.mk (hbox); have n2_ := Aside0.mk ((by rw [hg]; exact (below_size (by repeat (first | (with_reducible first | exact HB.out | apply below_alloc | apply pw_below_drewN | apply below_drew1) | exact HB.out))) : w.heap.size ≤ gb448)); have n3_ := Aside0.mk ((by rw [hg]; exact (below_size (by repeat (first | (with_reducible first | exact HB.out | apply below_alloc | apply pw_below_drewN | apply below_drew1) | exact HB.out))) : w.heap.size ≤ gb448)); clear HB; have HB := n0_; have BK448 := n1_; have GW448 := n2_; have GE448 := n3_; clear n0_ n1_ n2_ n3_; clear hb hbox hg; have hcz9_0 : w8.cell? ⟨gb448, 0, none⟩ = some (.int .i64 a0_0) := (blk_cell BK448.out 0).trans rfl; have hcz9_1 : w8.cell? ⟨gb448, 1, none⟩ = some (.int .i64 a0_1) := (blk_cell BK448.out 1).trans rfl; have hcz9_2 : w8.cell? ⟨gb448, 2, none⟩ = some (.int .i64 a0_2) := (blk_cell BK448.out 2).trans rfl; have hfz9_0 := blk_frozen BK448.out 0; have hfz9_1 := blk_frozen BK448.out 1; have hfz9_2 := blk_frozen BK448.out 2))
     go_ret
     exact ⟨by first | rfl | (simp [errW_none, errW_some] <;> rfl) | (simp [*, errW_none, errW_some] <;> rfl), by repeat (first | (with_reducible first | exact HB.out | apply below_alloc | apply pw_below_drewN | apply below_drew1 | refine below_set ?_ GE448.out) | exact HB.out)⟩
   ·
    rw [if_neg c4] at H
    have c4b0 : decide (0 ≤ a0_1) = false := decide_eq_false c4
    clear c4
    obtain rfl := Option.some.inj H
    go_enter Try.func54, Try.ntmps54
    go_wp2_with (first | ((with_reducible refine gate_dst (N := 1) rfl ?_); refine box_event ?hg (N := 1) ?hd (cs := #[.int .i64 a0_0, .int .i64 a0_1, .int .i64 a0_2]) (t := 46) ?hr ?_; (case hd => rfl); (case hg => rfl); (case hr => first | (go_simp; done) | (go_simp; rfl)); intro gb448 hg w10 hbox hb; have n0_ := Aside0.mk (below_step (by repeat (first | (with_reducible first | exact HB.out | apply below_alloc | apply pw_below_drewN | apply below_drew1) | exact HB.out)) hb); have n1_ := Aside0.mk (hbox); have n2_ := Aside0.mk ((by rw [hg]; exact (below_size (by repeat (first | (with_reducible first | exact HB.out | apply below_alloc | apply pw_below_drewN | apply below_drew1) | exact HB.out))) : w.heap.size ≤ gb448)); have n3_ := Aside0.mk ((by rw [hg]; exact (below_size (by repeat (first | (with_reducible first | exact HB.out | apply below_alloc | apply pw_below_drewN | apply below_drew1) | exact HB.out))) : w.heap.size ≤ gb448)); clear HB; have HB := n0_; have BK448 := n1_; have GW448 := n2_; have GE448 := n3_; clear n0_ n1_ n2_ n3_; clear hb hbox hg; have hcz11_0 : w10.cell? ⟨gb448, 0, none⟩ = some (.int .i64 a0_0) := (blk_cell BK448.out 0).trans rfl; have hcz11_1 : w10.cell? ⟨gb448, 1, none⟩ = some (.int .i64 a0_1) := (blk_cell BK448.out 1).trans rfl; have hcz11_2 : w10.cell? ⟨gb448, 2, none⟩ = some (.int .i64 a0_2) := (blk_cell BK448.out 2).trans rfl; have hfz11_0 := blk_frozen BK448.out 0; have hfz11_1 := blk_frozen BK448.out 1; have hfz11_2 := blk_frozen BK448.out 2))
    go_ret
    exact ⟨by first | rfl | (simp [errW_none, errW_some] <;> rfl) | (simp [*, errW_none, errW_some] <;> rfl), by repeat (first | (with_reducible first | exact HB.out | apply below_alloc | apply pw_below_drewN | apply below_drew1 | refine below_set ?_ GE448.out) | exact HB.out)⟩
  ·
   rw [if_neg c3] at H
   have c3b0 : decide (a0_0 ≤ 3) = false := decide_eq_false c3
   clear c3
   obtain rfl := Option.some.inj H
   go_enter Try.func54, Try.ntmps54
   go_wp2_with (first | ((with_reducible refine gate_dst (N := 1) rfl ?_); refine box_event ?hg (N := 1) ?hd (cs := #[.int .i64 a0_0, .int .i64 a0_1, .int .i64 a0_2]) (t := 46) ?hr ?_; (case hd => rfl); (case hg => rfl); (case hr => first | (go_simp; done) | (go_simp; rfl)); intro gb448 hg w12 hbox hb; have n0_ := Aside0.mk (below_step (by repeat (first | (with_reducible first | exact HB.out | apply below_alloc | apply pw_below_drewN | apply below_drew1) | exact HB.out)) hb); have n1_ := Aside0.mk (hbox); have n2_ := Aside0.mk ((by rw [hg]; exact (below_size (by repeat (first | (with_reducible first | exact HB.out | apply below_alloc | apply pw_below_drewN | apply below_drew1) | exact HB.out))) : w.heap.size ≤ gb448)); have n3_ := Aside0.mk ((by rw [hg]; exact (below_size (by repeat (first | (with_reducible first | exact HB.out | apply below_alloc | apply pw_below_drewN | apply below_drew1) | exact HB.out))) : w.heap.size ≤ gb448)); clear HB; have HB := n0_; have BK448 := n1_; have GW448 := n2_; have GE448 := n3_; clear n0_ n1_ n2_ n3_; clear hb hbox hg; have hcz13_0 : w12.cell? ⟨gb448, 0, none⟩ = some (.int .i64 a0_0) := (blk_cell BK448.out 0).trans rfl; have hcz13_1 : w12.cell? ⟨gb448, 1, none⟩ = some (.int .i64 a0_1) := (blk_cell BK448.out 1).trans rfl; have hcz13_2 : w12.cell? ⟨gb448, 2, none⟩ = some (.int .i64 a0_2) := (blk_cell BK448.out 2).trans rfl; have hfz13_0 := blk_frozen BK448.out 0; have hfz13_1 := blk_frozen BK448.out 1; have hfz13_2 := blk_frozen BK448.out 2))
   go_ret
   exact ⟨by first | rfl | (simp [errW_none, errW_some] <;> rfl) | (simp [*, errW_none, errW_some] <;> rfl), by repeat (first | (with_reducible first | exact HB.out | apply below_alloc | apply pw_below_drewN | apply below_drew1 | refine below_set ?_ GE448.out) | exact HB.out)⟩
 ·
  rw [if_neg c2] at H
  have c2b0 : decide (0 ≤ a0_0) = false := decide_eq_false c2
  clear c2
  obtain rfl := Option.some.inj H
  go_enter Try.func54, Try.ntmps54
  go_wp2_with (first | ((with_reducible refine gate_dst (N := 1) rfl ?_); refine box_event ?hg (N := 1) ?hd (cs := #[.int .i64 a0_0, .int .i64 a0_1, .int .i64 a0_2]) (t := 46) ?hr ?_; (case hd => rfl); (case hg => rfl); (case hr => first | (go_simp; done) | (go_simp; rfl)); intro gb448 hg w14 hbox hb; have n0_ := Aside0.mk (below_step (by repeat (first | (with_reducible first | exact HB.out | apply below_alloc | apply pw_below_drewN | apply below_drew1) | exact HB.out)) hb); have n1_ := Aside0.mk (hbox); have n2_ := Aside0.mk ((by rw [hg]; exact (below_size (by repeat (first | (with_reducible first | exact HB.out | apply below_alloc | apply pw_below_drewN | apply below_drew1) | exact HB.out))) : w.heap.size ≤ gb448)); have n3_ := Aside0.mk ((by rw [hg]; exact (below_size (by repeat (first | (with_reducible first | exact HB.out | apply below_alloc | apply pw_below_drewN | apply below_drew1) | exact HB.out))) : w.heap.size ≤ gb448)); clear HB; have HB := n0_; have BK448 := n1_; have GW448 := n2_; have GE448 := n3_; clear n0_ n1_ n2_ n3_; clear hb hbox hg; have hcz15_0 : w14.cell? ⟨gb448, 0, none⟩ = some (.int .i64 a0_0) := (blk_cell BK448.out 0).trans rfl; have hcz15_1 : w14.cell? ⟨gb448, 1, none⟩ = some (.int .i64 a0_1) := (blk_cell BK448.out 1).trans rfl; have hcz15_2 : w14.cell? ⟨gb448, 2, none⟩ = some (.int .i64 a0_2) := (blk_cell BK448.out 2).trans rfl; have hfz15_0 := blk_frozen BK448.out 0; have hfz15_1 := blk_frozen BK448.out 1; have hfz15_2 := blk_frozen BK448.out 2))
  go_ret
  exact ⟨by first | rfl | (simp [errW_none, errW_some] <;> rfl) | (simp [*, errW_none, errW_some] <;> rfl), by repeat (first | (with_reducible first | exact HB.out | apply below_alloc | apply pw_below_drewN | apply below_drew1 | refine below_set ?_ GE448.out) | exact HB.out)⟩
end Go.Proofs.Ytjlbgopgeepiaaa.PConf
namespace Go.Proofs.Ytjlbgopgeepiaaa.PConf
open Go.RowKit Go.Proofs.YtjlbgopgeepiaaaW.PrintWords Go.Proofs.YtjlbgopgeepiaaaW.PrintLast Go.Proofs.YtjlbgopgeepiaaaW.PrintMore
attribute [local go_sem] max2_int min2_int max_two min_two max_three min_three max_four min_four plus_setCell_drewN plus_cell_same   -- for this text's walks alone
set_option linter.unusedVariables false
set_option linter.unusedSimpArgs false
def busbarref12_Canon.l0 : Nat → List (S46) → Int → Option (Bool)
 | 0, _, _ => none
 | k + 1, x0, x3 => if x3 < (x0.length : Int) then (if 0 ≤ x3 then ((busbarref12_Right.f ((rd_T46 x0 x3).f0) ((rd_T46 x0 x3).f1) ((rd_T46 x0 x3).f2)).bind fun t450 => (if t450 = true then (if x3 > 0 then (if 0 ≤ (wrap64 (x3 - 1)) then (if (wrap64 (x3 - 1)) < (x0.length : Int) then (if ((rd_T46 x0 (wrap64 (x3 - 1))).f0) > ((rd_T46 x0 x3).f0) then (some false) else (if ((rd_T46 x0 (wrap64 (x3 - 1))).f0) = ((rd_T46 x0 x3).f0) then (if ((rd_T46 x0 (wrap64 (x3 - 1))).f2) ≥ ((rd_T46 x0 x3).f1) then (some false) else (busbarref12_Canon.l0 k x0 (wrap64 (x3 + 1)))) else (busbarref12_Canon.l0 k x0 (wrap64 (x3 + 1))))) else (none)) else (none)) else (busbarref12_Canon.l0 k x0 (wrap64 (x3 + 1)))) else (some false))) else (none)) else (some true)
def busbarref12_Canon.f (k : Nat) (l0 : List (S46)) : Option (Bool) := busbarref12_Canon.l0 k l0 0
theorem busbarref12_Canon.mono_l : ∀ k, (∀ y0 y1, LeO (busbarref12_Canon.l0 k y0 y1) (busbarref12_Canon.l0 (k + 1) y0 y1))
 | 0 => fun _ _ r h => by simp [busbarref12_Canon.l0] at h
 | k + 1 => by
  have ih0 := busbarref12_Canon.mono_l k
  ·
   intro y0 y1
   unfold busbarref12_Canon.l0
   repeat' first
   | (with_reducible exact ih0 _ _)
   | (with_reducible exact LeO.refl _)
   | (with_reducible exact LeO.none _)
   | (with_reducible refine LeO.ite ?_ ?_)
   | (with_reducible refine LeO.bind ?_ (fun _ => ?_))
   | exact ih0 _ _
   | exact LeO.none _
   | refine LeO.ite ?_ ?_
   | refine LeO.bind ?_ (fun _ => ?_)
theorem busbarref12_Canon.mono : ∀ a0 k, LeO (busbarref12_Canon.f k a0) (busbarref12_Canon.f (k + 1) a0) := by
 intro a0 k
 have ih0 := busbarref12_Canon.mono_l k
 unfold busbarref12_Canon.f
 repeat' first
   | (with_reducible exact ih0 _ _)
   | (with_reducible exact LeO.refl _)
   | (with_reducible exact LeO.none _)
   | (with_reducible refine LeO.ite ?_ ?_)
   | (with_reducible refine LeO.bind ?_ (fun _ => ?_))
   | exact ih0 _ _
   | exact LeO.none _
   | refine LeO.ite ?_ ?_
   | refine LeO.bind ?_ (fun _ => ?_)
set_option maxHeartbeats 8000000 in
set_option maxRecDepth 100000 in
theorem busbarref12_Canon.calls (k : Nat) (A0 : Option Addr) (c0 : Nat) (l0 : List (S46)) (r : Bool) (w : World) (hr0 : Kd.C k46 w A0 l0.length l0) (hc0 : l0.length ≤ c0) (h : busbarref12_Canon.f k l0 = some r) :
  Calls Try.prog 43 #[.slice A0 l0.length c0] w fun e w' => e = .returned (.bool r) ∧ Below w.heap.size w w' := by
 have hu46 := Try.underlying46
 have HR0 := Aside0.mk hr0
 have HC0 := Aside0.mk hc0
 clear hr0 hc0
 have HB := Aside0.mk (Below.refl w.heap.size w)
 have H : (busbarref12_Canon.l0 k l0 0) = some r := h
 clear h
 have H' := Aside0.mk H
 clear H
 go_enter Try.func43, Try.ntmps43
 go_wp2
 repeat (go_quiet (fail); try go_wp2)
 go_loopg [3] k (fun kq v3 w' => ∃ (x3_1 : Int), v3 = .int .i64 x3_1 ∧ Aside0 (busbarref12_Canon.l0 kq l0 x3_1 = some r) ∧ Aside0 (kq ≤ k) ∧ Aside0 (Below w.heap.size w w'))
 case atStart => exact ⟨(0), (by first | rfl | (simp; done) | (simp [*]; done)), H', ⟨Nat.le_refl _⟩, ⟨HB.out⟩⟩
 case round =>
  clear H'
  obtain ⟨x3_1, rfl, HA, HK1, HB⟩ := hrel
  cases gk with
  | zero => exact absurd HA.out (by simp [busbarref12_Canon.l0])
  | succ k1 =>
   have H := HA.out
   clear HA
   simp only [busbarref12_Canon.l0] at H
   by_cases c2 : x3_1 < (l0.length : Int)
   ·
    rw [if_pos c2] at H
    have c2b0 : decide (x3_1 < (l0.length : Int)) = true := decide_eq_true c2
    clear c2
    by_cases c3 : 0 ≤ x3_1
    ·
     rw [if_pos c3] at H
     have c3b0 : decide (0 ≤ x3_1) = true := decide_eq_true c3
     clear c3
     replace H := Option.bind_eq_some_iff.mp H
     obtain ⟨t450, A40, H⟩ := H
     have A4 := Aside0.mk A40
     clear A40
     by_cases c5 : t450 = true
     ·
      subst c5
      have H1 : (if x3_1 > 0 then (if 0 ≤ (wrap64 (x3_1 - 1)) then (if (wrap64 (x3_1 - 1)) < (l0.length : Int) then (if ((rd_T46 l0 (wrap64 (x3_1 - 1))).f0) > ((rd_T46 l0 x3_1).f0) then (some false) else (if ((rd_T46 l0 (wrap64 (x3_1 - 1))).f0) = ((rd_T46 l0 x3_1).f0) then (if ((rd_T46 l0 (wrap64 (x3_1 - 1))).f2) ≥ ((rd_T46 l0 x3_1).f1) then (some false) else (busbarref12_Canon.l0 k1 l0 (wrap64 (x3_1 + 1)))) else (busbarref12_Canon.l0 k1 l0 (wrap64 (x3_1 + 1))))) else (none)) else (none)) else (busbarref12_Canon.l0 k1 l0 (wrap64 (x3_1 + 1)))) = some r := by rw [if_pos rfl] at H; exact H
      clear H
      have H := H1
      clear H1
      by_cases c6 : x3_1 > 0
      ·
       rw [if_pos c6] at H
       have c6b0 : decide (0 < x3_1) = true := decide_eq_true c6
       clear c6
       obtain ⟨ji7, hji7⟩ : ∃ j_ : Int, (wrap64 (x3_1 - 1)) = j_ := ⟨_, rfl⟩
       replace H : (if 0 ≤ (ji7) then (if (ji7) < (l0.length : Int) then (if ((rd_T46 l0 (ji7)).f0) > ((rd_T46 l0 x3_1).f0) then (some false) else (if ((rd_T46 l0 (ji7)).f0) = ((rd_T46 l0 x3_1).f0) then (if ((rd_T46 l0 (ji7)).f2) ≥ ((rd_T46 l0 x3_1).f1) then (some false) else (busbarref12_Canon.l0 k1 l0 (wrap64 (x3_1 + 1)))) else (busbarref12_Canon.l0 k1 l0 (wrap64 (x3_1 + 1))))) else (none)) else (none)) = some r := by first | (rw [hji7] at H; exact H) | (simp only [hji7] at H ⊢; exact H)
       (try rw [hji7] at A4)
       have hji7w : (IntKind.i64.wrap (x3_1 - 1)) = ji7 := (i64_w _).trans hji7
       by_cases c8 : 0 ≤ (ji7)
       ·
        rw [if_pos c8] at H
        have c8b0 : decide (0 ≤ (ji7)) = true := decide_eq_true c8
        clear c8
        by_cases c9 : (ji7) < (l0.length : Int)
        ·
         rw [if_pos c9] at H
         have c9b0 : decide ((ji7) < (l0.length : Int)) = true := decide_eq_true c9
         clear c9
         by_cases c10 : ((rd_T46 l0 (ji7)).f0) > ((rd_T46 l0 x3_1).f0)
         ·
          rw [if_pos c10] at H
          have c10b0 : decide (((rd_T46 l0 x3_1).f0) < ((rd_T46 l0 (ji7)).f0)) = true := decide_eq_true c10
          clear c10
          obtain rfl := Option.some.inj H
          have p449 : 0 ≤ (x3_1 : Int) := of_decide_eq_true (by first | (with_reducible assumption) | assumption)
          have q449 : x3_1 < (l0.length : Int) := of_decide_eq_true (by first | (with_reducible assumption) | assumption)
          obtain ⟨ad449, e449, hx449_0, hx449_1, hx449_2⟩ := at_T46 HR0.out x3_1 p449 q449
          cases e449
          replace hx449_0 := (HB.out.cell (World.block_lt_of_cell? w _ hx449_0)).trans hx449_0
          replace hx449_1 := (HB.out.cell (World.block_lt_of_cell? w _ hx449_1)).trans hx449_1
          replace hx449_2 := (HB.out.cell (World.block_lt_of_cell? w _ hx449_2)).trans hx449_2
          replace p449 := eq_true p449
          replace q449 := eq_true q449
          go_wp2_with (first | (go_at_call 54; (with_reducible refine (busbarref12_Right.calls ((rd_T46 l0 x3_1).f0) ((rd_T46 l0 x3_1).f1) ((rd_T46 l0 x3_1).f2) true _ A4.out).mono ?_); rintro e w11 ⟨rfl, hb⟩; replace HB := Aside0.mk (below_step (HB.out) hb); (try clear hb); have p451 : 0 ≤ ((ji7) : Int) := of_decide_eq_true (by first | (with_reducible assumption) | assumption); have q451 : (ji7) < (l0.length : Int) := of_decide_eq_true (by first | (with_reducible assumption) | assumption); obtain ⟨ad451, e451, hx451_0, hx451_1, hx451_2⟩ := at_T46 HR0.out (ji7) p451 q451; obtain rfl : ad449 = ad451 := (by injection e451); replace hx451_0 := (HB.out.cell (World.block_lt_of_cell? w _ hx451_0)).trans hx451_0; replace hx451_1 := (HB.out.cell (World.block_lt_of_cell? w _ hx451_1)).trans hx451_1; replace hx451_2 := (HB.out.cell (World.block_lt_of_cell? w _ hx451_2)).trans hx451_2; replace p451 := eq_true p451; replace q451 := eq_true q451; have p452 : 0 ≤ (x3_1 : Int) := of_decide_eq_true (by first | (with_reducible assumption) | assumption); have q452 : x3_1 < (l0.length : Int) := of_decide_eq_true (by first | (with_reducible assumption) | assumption); obtain ⟨ad452, e452, hx452_0, hx452_1, hx452_2⟩ := at_T46 HR0.out x3_1 p452 q452; obtain rfl : ad449 = ad452 := (by injection e452); replace hx452_0 := (HB.out.cell (World.block_lt_of_cell? w _ hx452_0)).trans hx452_0; replace hx452_1 := (HB.out.cell (World.block_lt_of_cell? w _ hx452_1)).trans hx452_1; replace hx452_2 := (HB.out.cell (World.block_lt_of_cell? w _ hx452_2)).trans hx452_2; replace p452 := eq_true p452; replace q452 := eq_true q452))
          repeat (go_quiet (fail); try go_wp2_with (fail))
          go_ret
          exact ⟨by first | rfl | (simp [errW_none, errW_some] <;> rfl) | (simp only [← hji7]; first | rfl | (simp [errW_none, errW_some] <;> rfl)) | (simp [*, errW_none, errW_some] <;> rfl), by repeat (first | (with_reducible first | exact HB.out | apply below_alloc | apply pw_below_drewN | apply below_drew1) | exact HB.out)⟩
         ·
          rw [if_neg c10] at H
          have c10b0 : decide (((rd_T46 l0 x3_1).f0) < ((rd_T46 l0 (ji7)).f0)) = false := decide_eq_false c10
          clear c10
          by_cases c12 : ((rd_T46 l0 (ji7)).f0) = ((rd_T46 l0 x3_1).f0)
          ·
           rw [if_pos c12] at H
           have c12b0 : (((rd_T46 l0 (ji7)).f0) == ((rd_T46 l0 x3_1).f0)) = true := beq_iff_eq.mpr c12
           have c12b1 : (((rd_T46 l0 (ji7)).f0) != ((rd_T46 l0 x3_1).f0)) = false := bne_eq_false_iff_eq.mpr c12
           clear c12
           by_cases c13 : ((rd_T46 l0 (ji7)).f2) ≥ ((rd_T46 l0 x3_1).f1)
           ·
            rw [if_pos c13] at H
            have c13b0 : decide (((rd_T46 l0 x3_1).f1) ≤ ((rd_T46 l0 (ji7)).f2)) = true := decide_eq_true c13
            clear c13
            obtain rfl := Option.some.inj H
            have p449 : 0 ≤ (x3_1 : Int) := of_decide_eq_true (by first | (with_reducible assumption) | assumption)
            have q449 : x3_1 < (l0.length : Int) := of_decide_eq_true (by first | (with_reducible assumption) | assumption)
            obtain ⟨ad449, e449, hx449_0, hx449_1, hx449_2⟩ := at_T46 HR0.out x3_1 p449 q449
            cases e449
            replace hx449_0 := (HB.out.cell (World.block_lt_of_cell? w _ hx449_0)).trans hx449_0
            replace hx449_1 := (HB.out.cell (World.block_lt_of_cell? w _ hx449_1)).trans hx449_1
            replace hx449_2 := (HB.out.cell (World.block_lt_of_cell? w _ hx449_2)).trans hx449_2
            replace p449 := eq_true p449
            replace q449 := eq_true q449
            go_wp2_with (first | (go_at_call 54; (with_reducible refine (busbarref12_Right.calls ((rd_T46 l0 x3_1).f0) ((rd_T46 l0 x3_1).f1) ((rd_T46 l0 x3_1).f2) true _ A4.out).mono ?_); rintro e w14 ⟨rfl, hb⟩; replace HB := Aside0.mk (below_step (HB.out) hb); (try clear hb); have p451 : 0 ≤ ((ji7) : Int) := of_decide_eq_true (by first | (with_reducible assumption) | assumption); have q451 : (ji7) < (l0.length : Int) := of_decide_eq_true (by first | (with_reducible assumption) | assumption); obtain ⟨ad451, e451, hx451_0, hx451_1, hx451_2⟩ := at_T46 HR0.out (ji7) p451 q451; obtain rfl : ad449 = ad451 := (by injection e451); replace hx451_0 := (HB.out.cell (World.block_lt_of_cell? w _ hx451_0)).trans hx451_0; replace hx451_1 := (HB.out.cell (World.block_lt_of_cell? w _ hx451_1)).trans hx451_1; replace hx451_2 := (HB.out.cell (World.block_lt_of_cell? w _ hx451_2)).trans hx451_2; replace p451 := eq_true p451; replace q451 := eq_true q451; have p452 : 0 ≤ (x3_1 : Int) := of_decide_eq_true (by first | (with_reducible assumption) | assumption); have q452 : x3_1 < (l0.length : Int) := of_decide_eq_true (by first | (with_reducible assumption) | assumption); obtain ⟨ad452, e452, hx452_0, hx452_1, hx452_2⟩ := at_T46 HR0.out x3_1 p452 q452; obtain rfl : ad449 = ad452 := (by injection e452); replace hx452_0 := (HB.out.cell (World.block_lt_of_cell? w _ hx452_0)).trans hx452_0; replace hx452_1 := (HB.out.cell (World.block_lt_of_cell? w _ hx452_1)).trans hx452_1; replace hx452_2 := (HB.out.cell (World.block_lt_of_cell? w _ hx452_2)).trans hx452_2; replace p452 := eq_true p452; replace q452 := eq_true q452; have p453 : 0 ≤ ((ji7) : Int) := of_decide_eq_true (by first | (with_reducible assumption) | assumption); have q453 : (ji7) < (l0.length : Int) := of_decide_eq_true (by first | (with_reducible assumption) | assumption); obtain ⟨ad453, e453, hx453_0, hx453_1, hx453_2⟩ := at_T46 HR0.out (ji7) p453 q453; obtain rfl : ad449 = ad453 := (by injection e453); replace hx453_0 := (HB.out.cell (World.block_lt_of_cell? w _ hx453_0)).trans hx453_0; replace hx453_1 := (HB.out.cell (World.block_lt_of_cell? w _ hx453_1)).trans hx453_1; replace hx453_2 := (HB.out.cell (World.block_lt_of_cell? w _ hx453_2)).trans hx453_2; replace p453 := eq_true p453; replace q453 := eq_true q453; have p454 : 0 ≤ (x3_1 : Int) := of_decide_eq_true (by first | (with_reducible assumption) | assumption); have q454 : x3_1 < (l0.length : Int) := of_decide_eq_true (by first | (with_reducible assumption) | assumption); obtain ⟨ad454, e454, hx454_0, hx454_1, hx454_2⟩ := at_T46 HR0.out x3_1 p454 q454; obtain rfl : ad449 = ad454 := (by injection e454); replace hx454_0 := (HB.out.cell (World.block_lt_of_cell? w _ hx454_0)).trans hx454_0; replace hx454_1 := (HB.out.cell (World.block_lt_of_cell? w _ hx454_1)).trans hx454_1; replace hx454_2 := (HB.out.cell (World.block_lt_of_cell? w _ hx454_2)).trans hx454_2; replace p454 := eq_true p454; replace q454 := eq_true q454; have p455 : 0 ≤ ((ji7) : Int) := of_decide_eq_true (by first | (with_reducible assumption) | assumption); have q455 : (ji7) < (l0.length : Int) := of_decide_eq_true (by first | (with_reducible assumption) | assumption); obtain ⟨ad455, e455, hx455_0, hx455_1, hx455_2⟩ := at_T46 HR0.out (ji7) p455 q455; obtain rfl : ad449 = ad455 := (by injection e455); replace hx455_0 := (HB.out.cell (World.block_lt_of_cell? w _ hx455_0)).trans hx455_0; replace hx455_1 := (HB.out.cell (World.block_lt_of_cell? w _ hx455_1)).trans hx455_1; replace hx455_2 := (HB.out.cell (World.block_lt_of_cell? w _ hx455_2)).trans hx455_2; replace p455 := eq_true p455; replace q455 := eq_true q455; have p456 : 0 ≤ (x3_1 : Int) := of_decide_eq_true (by first | (with_reducible assumption) | assumption); have q456 : x3_1 < (l0.length : Int) := of_decide_eq_true (by first | (with_reducible assumption) | assumption); obtain ⟨ad456, e456, hx456_0, hx456_1, hx456_2⟩ := at_T46 HR0.out x3_1 p456 q456; obtain rfl : ad449 = ad456 := (by injection e456); replace hx456_0 := (HB.out.cell (World.block_lt_of_cell? w _ hx456_0)).trans hx456_0; replace hx456_1 := (HB.out.cell (World.block_lt_of_cell? w _ hx456_1)).trans hx456_1; replace hx456_2 := (HB.out.cell (World.block_lt_of_cell? w _ hx456_2)).trans hx456_2; replace p456 := eq_true p456; replace q456 := eq_true q456))
            repeat (go_quiet (fail); try go_wp2_with (fail))
            go_ret
            exact ⟨by first | rfl | (simp [errW_none, errW_some] <;> rfl) | (simp only [← hji7]; first | rfl | (simp [errW_none, errW_some] <;> rfl)) | (simp [*, errW_none, errW_some] <;> rfl), by repeat (first | (with_reducible first | exact HB.out | apply below_alloc | apply pw_below_drewN | apply below_drew1) | exact HB.out)⟩
           ·
            rw [if_neg c13] at H
            have c13b0 : decide (((rd_T46 l0 x3_1).f1) ≤ ((rd_T46 l0 (ji7)).f2)) = false := decide_eq_false c13
            clear c13
            have H' := Aside0.mk H
            clear H
            have p449 : 0 ≤ (x3_1 : Int) := of_decide_eq_true (by first | (with_reducible assumption) | assumption)
            have q449 : x3_1 < (l0.length : Int) := of_decide_eq_true (by first | (with_reducible assumption) | assumption)
            obtain ⟨ad449, e449, hx449_0, hx449_1, hx449_2⟩ := at_T46 HR0.out x3_1 p449 q449
            cases e449
            replace hx449_0 := (HB.out.cell (World.block_lt_of_cell? w _ hx449_0)).trans hx449_0
            replace hx449_1 := (HB.out.cell (World.block_lt_of_cell? w _ hx449_1)).trans hx449_1
            replace hx449_2 := (HB.out.cell (World.block_lt_of_cell? w _ hx449_2)).trans hx449_2
            replace p449 := eq_true p449
            replace q449 := eq_true q449
            go_wp2_with (first | (go_at_call 54; (with_reducible refine (busbarref12_Right.calls ((rd_T46 l0 x3_1).f0) ((rd_T46 l0 x3_1).f1) ((rd_T46 l0 x3_1).f2) true _ A4.out).mono ?_); rintro e w15 ⟨rfl, hb⟩; replace HB := Aside0.mk (below_step (HB.out) hb); (try clear hb); have p451 : 0 ≤ ((ji7) : Int) := of_decide_eq_true (by first | (with_reducible assumption) | assumption); have q451 : (ji7) < (l0.length : Int) := of_decide_eq_true (by first | (with_reducible assumption) | assumption); obtain ⟨ad451, e451, hx451_0, hx451_1, hx451_2⟩ := at_T46 HR0.out (ji7) p451 q451; obtain rfl : ad449 = ad451 := (by injection e451); replace hx451_0 := (HB.out.cell (World.block_lt_of_cell? w _ hx451_0)).trans hx451_0; replace hx451_1 := (HB.out.cell (World.block_lt_of_cell? w _ hx451_1)).trans hx451_1; replace hx451_2 := (HB.out.cell (World.block_lt_of_cell? w _ hx451_2)).trans hx451_2; replace p451 := eq_true p451; replace q451 := eq_true q451; have p452 : 0 ≤ (x3_1 : Int) := of_decide_eq_true (by first | (with_reducible assumption) | assumption); have q452 : x3_1 < (l0.length : Int) := of_decide_eq_true (by first | (with_reducible assumption) | assumption); obtain ⟨ad452, e452, hx452_0, hx452_1, hx452_2⟩ := at_T46 HR0.out x3_1 p452 q452; obtain rfl : ad449 = ad452 := (by injection e452); replace hx452_0 := (HB.out.cell (World.block_lt_of_cell? w _ hx452_0)).trans hx452_0; replace hx452_1 := (HB.out.cell (World.block_lt_of_cell? w _ hx452_1)).trans hx452_1; replace hx452_2 := (HB.out.cell (World.block_lt_of_cell? w _ hx452_2)).trans hx452_2; replace p452 := eq_true p452; replace q452 := eq_true q452; have p453 : 0 ≤ ((ji7) : Int) := of_decide_eq_true (by first | (with_reducible assumption) | assumption); have q453 : (ji7) < (l0.length : Int) := of_decide_eq_true (by first | (with_reducible assumption) | assumption); obtain ⟨ad453, e453, hx453_0, hx453_1, hx453_2⟩ := at_T46 HR0.out (ji7) p453 q453; obtain rfl : ad449 = ad453 := (by injection e453); replace hx453_0 := (HB.out.cell (World.block_lt_of_cell? w _ hx453_0)).trans hx453_0; replace hx453_1 := (HB.out.cell (World.block_lt_of_cell? w _ hx453_1)).trans hx453_1; replace hx453_2 := (HB.out.cell (World.block_lt_of_cell? w _ hx453_2)).trans hx453_2; replace p453 := eq_true p453; replace q453 := eq_true q453; have p454 : 0 ≤ (x3_1 : Int) := of_decide_eq_true (by first | (with_reducible assumption) | assumption); have q454 : x3_1 < (l0.length : Int) := of_decide_eq_true (by first | (with_reducible assumption) | assumption); obtain ⟨ad454, e454, hx454_0, hx454_1, hx454_2⟩ := at_T46 HR0.out x3_1 p454 q454; obtain rfl : ad449 = ad454 := (by injection e454); replace hx454_0 := (HB.out.cell (World.block_lt_of_cell? w _ hx454_0)).trans hx454_0; replace hx454_1 := (HB.out.cell (World.block_lt_of_cell? w _ hx454_1)).trans hx454_1; replace hx454_2 := (HB.out.cell (World.block_lt_of_cell? w _ hx454_2)).trans hx454_2; replace p454 := eq_true p454; replace q454 := eq_true q454; have p455 : 0 ≤ ((ji7) : Int) := of_decide_eq_true (by first | (with_reducible assumption) | assumption); have q455 : (ji7) < (l0.length : Int) := of_decide_eq_true (by first | (with_reducible assumption) | assumption); obtain ⟨ad455, e455, hx455_0, hx455_1, hx455_2⟩ := at_T46 HR0.out (ji7) p455 q455; obtain rfl : ad449 = ad455 := (by injection e455); replace hx455_0 := (HB.out.cell (World.block_lt_of_cell? w _ hx455_0)).trans hx455_0; replace hx455_1 := (HB.out.cell (World.block_lt_of_cell? w _ hx455_1)).trans hx455_1; replace hx455_2 := (HB.out.cell (World.block_lt_of_cell? w _ hx455_2)).trans hx455_2; replace p455 := eq_true p455; replace q455 := eq_true q455; have p456 : 0 ≤ (x3_1 : Int) := of_decide_eq_true (by first | (with_reducible assumption) | assumption); have q456 : x3_1 < (l0.length : Int) := of_decide_eq_true (by first | (with_reducible assumption) | assumption); obtain ⟨ad456, e456, hx456_0, hx456_1, hx456_2⟩ := at_T46 HR0.out x3_1 p456 q456; obtain rfl : ad449 = ad456 := (by injection e456); replace hx456_0 := (HB.out.cell (World.block_lt_of_cell? w _ hx456_0)).trans hx456_0; replace hx456_1 := (HB.out.cell (World.block_lt_of_cell? w _ hx456_1)).trans hx456_1; replace hx456_2 := (HB.out.cell (World.block_lt_of_cell? w _ hx456_2)).trans hx456_2; replace p456 := eq_true p456; replace q456 := eq_true q456))
            repeat (go_quiet (fail); try go_wp2_with (fail))
            go_roundg k1
            case measure => have := HK1.out; omega
            case rel => exact ⟨(wrap64 (x3_1 + 1)), (by first | rfl | (simp; done) | (simp [*]; done)), H', ⟨by have := HK1.out; omega⟩, ⟨by repeat (first | (with_reducible first | exact HB.out | apply below_alloc | apply pw_below_drewN | apply below_drew1) | exact HB.out)⟩⟩
          ·
           rw [if_neg c12] at H
           have c12b0 : (((rd_T46 l0 (ji7)).f0) == ((rd_T46 l0 x3_1).f0)) = false := beq_eq_false_iff_ne.mpr c12
           have c12b1 : (((rd_T46 l0 (ji7)).f0) != ((rd_T46 l0 x3_1).f0)) = true := bne_iff_ne.mpr c12
           have H' := Aside0.mk H
           clear H
           have p449 : 0 ≤ (x3_1 : Int) := of_decide_eq_true (by first | (with_reducible assumption) | assumption)
           have q449 : x3_1 < (l0.length : Int) := of_decide_eq_true (by first | (with_reducible assumption) | assumption)
           obtain ⟨ad449, e449, hx449_0, hx449_1, hx449_2⟩ := at_T46 HR0.out x3_1 p449 q449
           cases e449
           replace hx449_0 := (HB.out.cell (World.block_lt_of_cell? w _ hx449_0)).trans hx449_0
           replace hx449_1 := (HB.out.cell (World.block_lt_of_cell? w _ hx449_1)).trans hx449_1
           replace hx449_2 := (HB.out.cell (World.block_lt_of_cell? w _ hx449_2)).trans hx449_2
           replace p449 := eq_true p449
           replace q449 := eq_true q449
           go_wp2_with (first | (go_at_call 54; (with_reducible refine (busbarref12_Right.calls ((rd_T46 l0 x3_1).f0) ((rd_T46 l0 x3_1).f1) ((rd_T46 l0 x3_1).f2) true _ A4.out).mono ?_); rintro e w16 ⟨rfl, hb⟩; replace HB := Aside0.mk (below_step (HB.out) hb); (try clear hb); have p451 : 0 ≤ ((ji7) : Int) := of_decide_eq_true (by first | (with_reducible assumption) | assumption); have q451 : (ji7) < (l0.length : Int) := of_decide_eq_true (by first | (with_reducible assumption) | assumption); obtain ⟨ad451, e451, hx451_0, hx451_1, hx451_2⟩ := at_T46 HR0.out (ji7) p451 q451; obtain rfl : ad449 = ad451 := (by injection e451); replace hx451_0 := (HB.out.cell (World.block_lt_of_cell? w _ hx451_0)).trans hx451_0; replace hx451_1 := (HB.out.cell (World.block_lt_of_cell? w _ hx451_1)).trans hx451_1; replace hx451_2 := (HB.out.cell (World.block_lt_of_cell? w _ hx451_2)).trans hx451_2; replace p451 := eq_true p451; replace q451 := eq_true q451; have p452 : 0 ≤ (x3_1 : Int) := of_decide_eq_true (by first | (with_reducible assumption) | assumption); have q452 : x3_1 < (l0.length : Int) := of_decide_eq_true (by first | (with_reducible assumption) | assumption); obtain ⟨ad452, e452, hx452_0, hx452_1, hx452_2⟩ := at_T46 HR0.out x3_1 p452 q452; obtain rfl : ad449 = ad452 := (by injection e452); replace hx452_0 := (HB.out.cell (World.block_lt_of_cell? w _ hx452_0)).trans hx452_0; replace hx452_1 := (HB.out.cell (World.block_lt_of_cell? w _ hx452_1)).trans hx452_1; replace hx452_2 := (HB.out.cell (World.block_lt_of_cell? w _ hx452_2)).trans hx452_2; replace p452 := eq_true p452; replace q452 := eq_true q452; have p453 : 0 ≤ ((ji7) : Int) := of_decide_eq_true (by first | (with_reducible assumption) | assumption); have q453 : (ji7) < (l0.length : Int) := of_decide_eq_true (by first | (with_reducible assumption) | assumption); obtain ⟨ad453, e453, hx453_0, hx453_1, hx453_2⟩ := at_T46 HR0.out (ji7) p453 q453; obtain rfl : ad449 = ad453 := (by injection e453); replace hx453_0 := (HB.out.cell (World.block_lt_of_cell? w _ hx453_0)).trans hx453_0; replace hx453_1 := (HB.out.cell (World.block_lt_of_cell? w _ hx453_1)).trans hx453_1; replace hx453_2 := (HB.out.cell (World.block_lt_of_cell? w _ hx453_2)).trans hx453_2; replace p453 := eq_true p453; replace q453 := eq_true q453; have p454 : 0 ≤ (x3_1 : Int) := of_decide_eq_true (by first | (with_reducible assumption) | assumption); have q454 : x3_1 < (l0.length : Int) := of_decide_eq_true (by first | (with_reducible assumption) | assumption); obtain ⟨ad454, e454, hx454_0, hx454_1, hx454_2⟩ := at_T46 HR0.out x3_1 p454 q454; obtain rfl : ad449 = ad454 := (by injection e454); replace hx454_0 := (HB.out.cell (World.block_lt_of_cell? w _ hx454_0)).trans hx454_0; replace hx454_1 := (HB.out.cell (World.block_lt_of_cell? w _ hx454_1)).trans hx454_1; replace hx454_2 := (HB.out.cell (World.block_lt_of_cell? w _ hx454_2)).trans hx454_2; replace p454 := eq_true p454; replace q454 := eq_true q454))
           repeat (go_quiet (fail); try go_wp2_with (fail))
           go_roundg k1
           case measure => have := HK1.out; omega
           case rel => exact ⟨(wrap64 (x3_1 + 1)), (by first | rfl | (simp; done) | (simp [*]; done)), H', ⟨by have := HK1.out; omega⟩, ⟨by repeat (first | (with_reducible first | exact HB.out | apply below_alloc | apply pw_below_drewN | apply below_drew1) | exact HB.out)⟩⟩
        ·
         rw [if_neg c9] at H
         exact absurd H (by simp)
       ·
        rw [if_neg c8] at H
        exact absurd H (by simp)
      ·
       rw [if_neg c6] at H
       have c6b0 : decide (0 < x3_1) = false := decide_eq_false c6
       clear c6
       have H' := Aside0.mk H
       clear H
       have p449 : 0 ≤ (x3_1 : Int) := of_decide_eq_true (by first | (with_reducible assumption) | assumption)
       have q449 : x3_1 < (l0.length : Int) := of_decide_eq_true (by first | (with_reducible assumption) | assumption)
       obtain ⟨ad449, e449, hx449_0, hx449_1, hx449_2⟩ := at_T46 HR0.out x3_1 p449 q449
       cases e449
       replace hx449_0 := (HB.out.cell (World.block_lt_of_cell? w _ hx449_0)).trans hx449_0
       replace hx449_1 := (HB.out.cell (World.block_lt_of_cell? w _ hx449_1)).trans hx449_1
       replace hx449_2 := (HB.out.cell (World.block_lt_of_cell? w _ hx449_2)).trans hx449_2
       replace p449 := eq_true p449
       replace q449 := eq_true q449
       go_wp2_with (first | (go_at_call 54; (with_reducible refine (busbarref12_Right.calls ((rd_T46 l0 x3_1).f0) ((rd_T46 l0 x3_1).f1) ((rd_T46 l0 x3_1).f2) true _ A4.out).mono ?_); rintro e w17 ⟨rfl, hb⟩; replace HB := Aside0.mk (below_step (HB.out) hb); (try clear hb); (try clear hi)))
       repeat (go_quiet (fail); try go_wp2_with (fail))
       go_roundg k1
       case measure => have := HK1.out; omega
       case rel => exact ⟨(wrap64 (x3_1 + 1)), (by first | rfl | (simp; done) | (simp [*]; done)), H', ⟨by have := HK1.out; omega⟩, ⟨by repeat (first | (with_reducible first | exact HB.out | apply below_alloc | apply pw_below_drewN | apply below_drew1) | exact HB.out)⟩⟩
     ·
      replace c5 := Bool.eq_false_iff.mpr c5
      subst c5
      have H1 : (some false) = some r := by rw [if_neg (show ¬ (false = true) by decide)] at H; exact H
      clear H
      have H := H1
      clear H1
      obtain rfl := Option.some.inj H
      have p449 : 0 ≤ (x3_1 : Int) := of_decide_eq_true (by first | (with_reducible assumption) | assumption)
      have q449 : x3_1 < (l0.length : Int) := of_decide_eq_true (by first | (with_reducible assumption) | assumption)
      obtain ⟨ad449, e449, hx449_0, hx449_1, hx449_2⟩ := at_T46 HR0.out x3_1 p449 q449
      cases e449
      replace hx449_0 := (HB.out.cell (World.block_lt_of_cell? w _ hx449_0)).trans hx449_0
      replace hx449_1 := (HB.out.cell (World.block_lt_of_cell? w _ hx449_1)).trans hx449_1
      replace hx449_2 := (HB.out.cell (World.block_lt_of_cell? w _ hx449_2)).trans hx449_2
      replace p449 := eq_true p449
      replace q449 := eq_true q449
      go_wp2_with (first | (go_at_call 54; (with_reducible refine (busbarref12_Right.calls ((rd_T46 l0 x3_1).f0) ((rd_T46 l0 x3_1).f1) ((rd_T46 l0 x3_1).f2) false _ A4.out).mono ?_); rintro e w18 ⟨rfl, hb⟩; replace HB := Aside0.mk (below_step (HB.out) hb); (try clear hb); (try clear hi)))
      repeat (go_quiet (fail); try go_wp2_with (fail))
      go_ret
      exact ⟨by first | rfl | (simp [errW_none, errW_some] <;> rfl) | (simp [*, errW_none, errW_some] <;> rfl), HB.out⟩
    ·
     rw [if_neg c3] at H
     exact absurd H (by simp)
   ·
    rw [if_neg c2] at H
    have c2b0 : decide (x3_1 < (l0.length : Int)) = false := decide_eq_false c2
    clear c2
    obtain rfl := Option.some.inj H
    go_wp2
    repeat (go_quiet (fail); try go_wp2)
    go_ret
    exact ⟨by first | rfl | (simp [errW_none, errW_some] <;> rfl) | (simp [*, errW_none, errW_some] <;> rfl), HB.out⟩
end Go.Proofs.Ytjlbgopgeepiaaa.PConf
namespace Go.Proofs.Ytjlbgopgeepiaaa.PConf
open Go.RowKit Go.Proofs.YtjlbgopgeepiaaaW.PrintWords Go.Proofs.YtjlbgopgeepiaaaW.PrintLast Go.Proofs.YtjlbgopgeepiaaaW.PrintMore
attribute [local go_sem] max2_int min2_int max_two min_two max_three min_three max_four min_four plus_setCell_drewN plus_cell_same   -- for this text's walks alone
set_option linter.unusedVariables false
set_option linter.unusedSimpArgs false
def busbarref12_Meets.l0 : Nat → List (S46) → Int → Int → Int → Int → Option (Bool)
 | 0, _, _, _, _, _ => none
 | k + 1, x0, x5, x458000, x458001, x458002 => if x5 < (x0.length : Int) then (if 0 ≤ x5 then (if ((rd_T46 x0 x5).f0) = x458000 then (if ((rd_T46 x0 x5).f1) < x458002 then (if x458001 < ((rd_T46 x0 x5).f2) then (some true) else (busbarref12_Meets.l0 k x0 (wrap64 (x5 + 1)) x458000 x458001 x458002)) else (busbarref12_Meets.l0 k x0 (wrap64 (x5 + 1)) x458000 x458001 x458002)) else (busbarref12_Meets.l0 k x0 (wrap64 (x5 + 1)) x458000 x458001 x458002)) else (none)) else (some false)
def busbarref12_Meets.f (k : Nat) (l0 : List (S46)) (a1_0 : Int) (a1_1 : Int) (a1_2 : Int) : Option (Bool) := busbarref12_Meets.l0 k l0 0 a1_0 a1_1 a1_2
theorem busbarref12_Meets.mono_l : ∀ k, (∀ y0 y1 y2 y3 y4, LeO (busbarref12_Meets.l0 k y0 y1 y2 y3 y4) (busbarref12_Meets.l0 (k + 1) y0 y1 y2 y3 y4))
 | 0 => fun _ _ _ _ _ r h => by simp [busbarref12_Meets.l0] at h
 | k + 1 => by
  have ih0 := busbarref12_Meets.mono_l k
  ·
   intro y0 y1 y2 y3 y4
   unfold busbarref12_Meets.l0
   repeat' first
   | (with_reducible exact ih0 _ _ _ _ _)
   | (with_reducible exact LeO.refl _)
   | (with_reducible exact LeO.none _)
   | (with_reducible refine LeO.ite ?_ ?_)
   | (with_reducible refine LeO.bind ?_ (fun _ => ?_))
   | exact ih0 _ _ _ _ _
   | exact LeO.none _
   | refine LeO.ite ?_ ?_
   | refine LeO.bind ?_ (fun _ => ?_)
theorem busbarref12_Meets.mono : ∀ a0 a1 a2 a3 k, LeO (busbarref12_Meets.f k a0 a1 a2 a3) (busbarref12_Meets.f (k + 1) a0 a1 a2 a3) := by
 intro a0 a1 a2 a3 k
 have ih0 := busbarref12_Meets.mono_l k
 unfold busbarref12_Meets.f
 repeat' first
   | (with_reducible exact ih0 _ _ _ _ _)
   | (with_reducible exact LeO.refl _)
   | (with_reducible exact LeO.none _)
   | (with_reducible refine LeO.ite ?_ ?_)
   | (with_reducible refine LeO.bind ?_ (fun _ => ?_))
   | exact ih0 _ _ _ _ _
   | exact LeO.none _
   | refine LeO.ite ?_ ?_
   | refine LeO.bind ?_ (fun _ => ?_)
set_option maxHeartbeats 8000000 in
set_option maxRecDepth 100000 in
theorem busbarref12_Meets.calls (k : Nat) (A0 : Option Addr) (c0 : Nat) (l0 : List (S46)) (a1_0 : Int) (a1_1 : Int) (a1_2 : Int) (r : Bool) (w : World) (hr0 : Kd.C k46 w A0 l0.length l0) (hc0 : l0.length ≤ c0) (h : busbarref12_Meets.f k l0 a1_0 a1_1 a1_2 = some r) :
  Calls Try.prog 44 #[.slice A0 l0.length c0, .agg #[.int .i64 a1_0, .int .i64 a1_1, .int .i64 a1_2]] w fun e w' => e = .returned (.bool r) ∧ Below w.heap.size w w' := by
 have hu46 := Try.underlying46
 have HR0 := Aside0.mk hr0
 have HC0 := Aside0.mk hc0
 clear hr0 hc0
 have HB := Aside0.mk (Below.refl w.heap.size w)
 have H : (busbarref12_Meets.l0 k l0 0 a1_0 a1_1 a1_2) = some r := h
 clear h
 have H' := Aside0.mk H
 clear H
 go_enter Try.func44, Try.ntmps44
 go_wp2_with (first | ((with_reducible refine gate_dst (N := 3) rfl ?_); refine box_event ?hg (N := 3) ?hd (cs := #[.int .i64 a1_0, .int .i64 a1_1, .int .i64 a1_2]) (t := 46) ?hr ?_; (case hd => rfl); (case hg => rfl); (case hr => first | (go_simp; done) | (go_simp; rfl)); intro gb457 hg w3 hbox hb; have n0_ := Aside0.mk (below_step (by repeat (first | (with_reducible first | exact HB.out | apply below_alloc | apply pw_below_drewN | apply below_drew1) | exact HB.out)) hb); have n1_ := Aside0.mk (hbox); have n2_ := Aside0.mk ((by rw [hg]; exact (below_size (by repeat (first | (with_reducible first | exact HB.out | apply below_alloc | apply pw_below_drewN | apply below_drew1) | exact HB.out))) : w.heap.size ≤ gb457)); have n3_ := Aside0.mk ((by rw [hg]; exact (below_size (by repeat (first | (with_reducible first | exact HB.out | apply below_alloc | apply pw_below_drewN | apply below_drew1) | exact HB.out))) : w.heap.size ≤ gb457)); clear HB; have HB := n0_; have BK457 := n1_; have GW457 := n2_; have GE457 := n3_; clear n0_ n1_ n2_ n3_; clear hb hbox hg))
 repeat (go_quiet (first | ((with_reducible refine gate_dst (N := 3) rfl ?_); refine box_event ?hg (N := 3) ?hd (cs := #[.int .i64 a1_0, .int .i64 a1_1, .int .i64 a1_2]) (t := 46) ?hr ?_; (case hd => rfl); (case hg => rfl); (case hr => first | (go_simp; done) | (go_simp; rfl)); intro gb457 hg w3 hbox hb; have n0_ := Aside0.mk (below_step (by repeat (first | (with_reducible first | exact HB.out | apply below_alloc | apply pw_below_drewN | apply below_drew1) | exact HB.out)) hb); have n1_ := Aside0.mk (hbox); have n2_ := Aside0.mk ((by rw [hg]; exact (below_size (by repeat (first | (with_reducible first | exact HB.out | apply below_alloc | apply pw_below_drewN | apply below_drew1) | exact HB.out))) : w.heap.size ≤ gb457)); have n3_ := Aside0.mk ((by rw [hg]; exact (below_size (by repeat (first | (with_reducible first | exact HB.out | apply below_alloc | apply pw_below_drewN | apply below_drew1) | exact HB.out))) : w.heap.size ≤ gb457)); clear HB; have HB := n0_; have BK457 := n1_; have GW457 := n2_; have GE457 := n3_; clear n0_ n1_ n2_ n3_; clear hb hbox hg)); try go_wp2_with (first | ((with_reducible refine gate_dst (N := 3) rfl ?_); refine box_event ?hg (N := 3) ?hd (cs := #[.int .i64 a1_0, .int .i64 a1_1, .int .i64 a1_2]) (t := 46) ?hr ?_; (case hd => rfl); (case hg => rfl); (case hr => first | (go_simp; done) | (go_simp; rfl)); intro gb457 hg w3 hbox hb; have n0_ := Aside0.mk (below_step (by repeat (first | (with_reducible first | exact HB.out | apply below_alloc | apply pw_below_drewN | apply below_drew1) | exact HB.out)) hb); have n1_ := Aside0.mk (hbox); have n2_ := Aside0.mk ((by rw [hg]; exact (below_size (by repeat (first | (with_reducible first | exact HB.out | apply below_alloc | apply pw_below_drewN | apply below_drew1) | exact HB.out))) : w.heap.size ≤ gb457)); have n3_ := Aside0.mk ((by rw [hg]; exact (below_size (by repeat (first | (with_reducible first | exact HB.out | apply below_alloc | apply pw_below_drewN | apply below_drew1) | exact HB.out))) : w.heap.size ≤ gb457)); clear HB; have HB := n0_; have BK457 := n1_; have GW457 := n2_; have GE457 := n3_; clear n0_ n1_ n2_ n3_; clear hb hbox hg)))
 go_loopg [5] k (fun kq v5 w' => ∃ (x5_1 : Int), v5 = .int .i64 x5_1 ∧ Aside0 (busbarref12_Meets.l0 kq l0 x5_1 a1_0 a1_1 a1_2 = some r) ∧ Aside0 (kq ≤ k) ∧ Aside0 (w'.heap[gb457]? = some (.cells #[.int .i64 a1_0, .int .i64 a1_1, .int .i64 a1_2] 46 (0, 0))) ∧ Aside0 (Below w.heap.size w w'))
 case atStart => exact ⟨(0), (by first | rfl | (simp; done) | (simp [*]; done)), H', ⟨Nat.le_refl _⟩, ⟨by (with_reducible repeat (first | refine blk_drewN ?_ _ | refine blk_drew ?_ | refine blk_alloc ?_ _)); exact BK457.out⟩, ⟨by repeat (first | (with_reducible first | exact HB.out | apply below_alloc | apply pw_below_drewN | apply below_drew1 | refine below_set ?_ GE457.out) | exact HB.out)⟩⟩
 case round =>
  clear H'
  try clear p2
  obtain ⟨x5_1, rfl, HA, HK1, BK457, HB⟩ := hrel
  cases gk with
  | zero => exact absurd HA.out (by simp [busbarref12_Meets.l0])
  | succ k1 =>
   have H := HA.out
   clear HA
   simp only [busbarref12_Meets.l0] at H
   by_cases c4 : x5_1 < (l0.length : Int)
   ·
    rw [if_pos c4] at H
    have c4b0 : decide (x5_1 < (l0.length : Int)) = true := decide_eq_true c4
    clear c4
    by_cases c5 : 0 ≤ x5_1
    ·
     rw [if_pos c5] at H
     have c5b0 : decide (0 ≤ x5_1) = true := decide_eq_true c5
     clear c5
     by_cases c6 : ((rd_T46 l0 x5_1).f0) = a1_0
     ·
      rw [if_pos c6] at H
      have c6b0 : (((rd_T46 l0 x5_1).f0) == a1_0) = true := beq_iff_eq.mpr c6
      have c6b1 : (((rd_T46 l0 x5_1).f0) != a1_0) = false := bne_eq_false_iff_eq.mpr c6
      clear c6
      by_cases c7 : ((rd_T46 l0 x5_1).f1) < a1_2
      ·
       rw [if_pos c7] at H
       have c7b0 : decide (((rd_T46 l0 x5_1).f1) < a1_2) = true := decide_eq_true c7
       clear c7
       by_cases c8 : a1_1 < ((rd_T46 l0 x5_1).f2)
       ·
        rw [if_pos c8] at H
        have c8b0 : decide (a1_1 < ((rd_T46 l0 x5_1).f2)) = true := decide_eq_true c8
        clear c8
        obtain rfl := Option.some.inj H
        have p458 : 0 ≤ (x5_1 : Int) := of_decide_eq_true (by first | (with_reducible assumption) | assumption)
        have q458 : x5_1 < (l0.length : Int) := of_decide_eq_true (by first | (with_reducible assumption) | assumption)
        obtain ⟨ad458, e458, hx458_0, hx458_1, hx458_2⟩ := at_T46 HR0.out x5_1 p458 q458
        cases e458
        replace hx458_0 := (HB.out.cell (World.block_lt_of_cell? w _ hx458_0)).trans hx458_0
        replace hx458_1 := (HB.out.cell (World.block_lt_of_cell? w _ hx458_1)).trans hx458_1
        replace hx458_2 := (HB.out.cell (World.block_lt_of_cell? w _ hx458_2)).trans hx458_2
        replace p458 := eq_true p458
        replace q458 := eq_true q458
        have hcz9_0 : wr.cell? ⟨gb457, 0, none⟩ = some (.int .i64 a1_0) := (blk_cell BK457.out 0).trans rfl
        have hcz9_1 : wr.cell? ⟨gb457, 1, none⟩ = some (.int .i64 a1_1) := (blk_cell BK457.out 1).trans rfl
        have hcz9_2 : wr.cell? ⟨gb457, 2, none⟩ = some (.int .i64 a1_2) := (blk_cell BK457.out 2).trans rfl
        have hfz9_0 := blk_frozen BK457.out 0
        have hfz9_1 := blk_frozen BK457.out 1
        have hfz9_2 := blk_frozen BK457.out 2
        have p459 : 0 ≤ (x5_1 : Int) := of_decide_eq_true (by first | (with_reducible assumption) | assumption)
        have q459 : x5_1 < (l0.length : Int) := of_decide_eq_true (by first | (with_reducible assumption) | assumption)
        obtain ⟨ad459, e459, hx459_0, hx459_1, hx459_2⟩ := at_T46 HR0.out x5_1 p459 q459
        obtain rfl : ad458 = ad459 := (by injection e459)
        replace hx459_0 := (HB.out.cell (World.block_lt_of_cell? w _ hx459_0)).trans hx459_0
        replace hx459_1 := (HB.out.cell (World.block_lt_of_cell? w _ hx459_1)).trans hx459_1
        replace hx459_2 := (HB.out.cell (World.block_lt_of_cell? w _ hx459_2)).trans hx459_2
        replace p459 := eq_true p459
        replace q459 := eq_true q459
        have p460 : 0 ≤ (x5_1 : Int) := of_decide_eq_true (by first | (with_reducible assumption) | assumption)
        have q460 : x5_1 < (l0.length : Int) := of_decide_eq_true (by first | (with_reducible assumption) | assumption)
        obtain ⟨ad460, e460, hx460_0, hx460_1, hx460_2⟩ := at_T46 HR0.out x5_1 p460 q460
        obtain rfl : ad458 = ad460 := (by injection e460)
        replace hx460_0 := (HB.out.cell (World.block_lt_of_cell? w _ hx460_0)).trans hx460_0
        replace hx460_1 := (HB.out.cell (World.block_lt_of_cell? w _ hx460_1)).trans hx460_1
        replace hx460_2 := (HB.out.cell (World.block_lt_of_cell? w _ hx460_2)).trans hx460_2
        replace p460 := eq_true p460
        replace q460 := eq_true q460
        go_wp2
        repeat (go_quiet (fail); try go_wp2)
        go_ret
        exact ⟨by first | rfl | (simp [errW_none, errW_some] <;> rfl) | (simp [*, errW_none, errW_some] <;> rfl), by repeat (first | (with_reducible first | exact HB.out | apply below_alloc | apply pw_below_drewN | apply below_drew1 | refine below_set ?_ GE457.out) | exact HB.out)⟩
       ·
        rw [if_neg c8] at H
        have c8b0 : decide (a1_1 < ((rd_T46 l0 x5_1).f2)) = false := decide_eq_false c8
        clear c8
        have H' := Aside0.mk H
        clear H
        have p458 : 0 ≤ (x5_1 : Int) := of_decide_eq_true (by first | (with_reducible assumption) | assumption)
        have q458 : x5_1 < (l0.length : Int) := of_decide_eq_true (by first | (with_reducible assumption) | assumption)
        obtain ⟨ad458, e458, hx458_0, hx458_1, hx458_2⟩ := at_T46 HR0.out x5_1 p458 q458
        cases e458
        replace hx458_0 := (HB.out.cell (World.block_lt_of_cell? w _ hx458_0)).trans hx458_0
        replace hx458_1 := (HB.out.cell (World.block_lt_of_cell? w _ hx458_1)).trans hx458_1
        replace hx458_2 := (HB.out.cell (World.block_lt_of_cell? w _ hx458_2)).trans hx458_2
        replace p458 := eq_true p458
        replace q458 := eq_true q458
        have hcz10_0 : wr.cell? ⟨gb457, 0, none⟩ = some (.int .i64 a1_0) := (blk_cell BK457.out 0).trans rfl
        have hcz10_1 : wr.cell? ⟨gb457, 1, none⟩ = some (.int .i64 a1_1) := (blk_cell BK457.out 1).trans rfl
        have hcz10_2 : wr.cell? ⟨gb457, 2, none⟩ = some (.int .i64 a1_2) := (blk_cell BK457.out 2).trans rfl
        have hfz10_0 := blk_frozen BK457.out 0
        have hfz10_1 := blk_frozen BK457.out 1
        have hfz10_2 := blk_frozen BK457.out 2
        have p459 : 0 ≤ (x5_1 : Int) := of_decide_eq_true (by first | (with_reducible assumption) | assumption)
        have q459 : x5_1 < (l0.length : Int) := of_decide_eq_true (by first | (with_reducible assumption) | assumption)
        obtain ⟨ad459, e459, hx459_0, hx459_1, hx459_2⟩ := at_T46 HR0.out x5_1 p459 q459
        obtain rfl : ad458 = ad459 := (by injection e459)
        replace hx459_0 := (HB.out.cell (World.block_lt_of_cell? w _ hx459_0)).trans hx459_0
        replace hx459_1 := (HB.out.cell (World.block_lt_of_cell? w _ hx459_1)).trans hx459_1
        replace hx459_2 := (HB.out.cell (World.block_lt_of_cell? w _ hx459_2)).trans hx459_2
        replace p459 := eq_true p459
        replace q459 := eq_true q459
        have p460 : 0 ≤ (x5_1 : Int) := of_decide_eq_true (by first | (with_reducible assumption) | assumption)
        have q460 : x5_1 < (l0.length : Int) := of_decide_eq_true (by first | (with_reducible assumption) | assumption)
        obtain ⟨ad460, e460, hx460_0, hx460_1, hx460_2⟩ := at_T46 HR0.out x5_1 p460 q460
        obtain rfl : ad458 = ad460 := (by injection e460)
        replace hx460_0 := (HB.out.cell (World.block_lt_of_cell? w _ hx460_0)).trans hx460_0
        replace hx460_1 := (HB.out.cell (World.block_lt_of_cell? w _ hx460_1)).trans hx460_1
        replace hx460_2 := (HB.out.cell (World.block_lt_of_cell? w _ hx460_2)).trans hx460_2
        replace p460 := eq_true p460
        replace q460 := eq_true q460
        go_wp2
        repeat (go_quiet (fail); try go_wp2)
        go_roundg k1
        case measure => have := HK1.out; omega
        case rel => exact ⟨(wrap64 (x5_1 + 1)), (by first | rfl | (simp; done) | (simp [*]; done)), H', ⟨by have := HK1.out; omega⟩, ⟨by (with_reducible repeat (first | refine blk_drewN ?_ _ | refine blk_drew ?_ | refine blk_alloc ?_ _)); exact BK457.out⟩, ⟨by repeat (first | (with_reducible first | exact HB.out | apply below_alloc | apply pw_below_drewN | apply below_drew1 | refine below_set ?_ GE457.out) | exact HB.out)⟩⟩
      ·
       rw [if_neg c7] at H
       have c7b0 : decide (((rd_T46 l0 x5_1).f1) < a1_2) = false := decide_eq_false c7
       clear c7
       have H' := Aside0.mk H
       clear H
       have p458 : 0 ≤ (x5_1 : Int) := of_decide_eq_true (by first | (with_reducible assumption) | assumption)
       have q458 : x5_1 < (l0.length : Int) := of_decide_eq_true (by first | (with_reducible assumption) | assumption)
       obtain ⟨ad458, e458, hx458_0, hx458_1, hx458_2⟩ := at_T46 HR0.out x5_1 p458 q458
       cases e458
       replace hx458_0 := (HB.out.cell (World.block_lt_of_cell? w _ hx458_0)).trans hx458_0
       replace hx458_1 := (HB.out.cell (World.block_lt_of_cell? w _ hx458_1)).trans hx458_1
       replace hx458_2 := (HB.out.cell (World.block_lt_of_cell? w _ hx458_2)).trans hx458_2
       replace p458 := eq_true p458
       replace q458 := eq_true q458
       have hcz11_0 : wr.cell? ⟨gb457, 0, none⟩ = some (.int .i64 a1_0) := (blk_cell BK457.out 0).trans rfl
       have hcz11_1 : wr.cell? ⟨gb457, 1, none⟩ = some (.int .i64 a1_1) := (blk_cell BK457.out 1).trans rfl
       have hcz11_2 : wr.cell? ⟨gb457, 2, none⟩ = some (.int .i64 a1_2) := (blk_cell BK457.out 2).trans rfl
       have hfz11_0 := blk_frozen BK457.out 0
       have hfz11_1 := blk_frozen BK457.out 1
       have hfz11_2 := blk_frozen BK457.out 2
       have p459 : 0 ≤ (x5_1 : Int) := of_decide_eq_true (by first | (with_reducible assumption) | assumption)
       have q459 : x5_1 < (l0.length : Int) := of_decide_eq_true (by first | (with_reducible assumption) | assumption)
       obtain ⟨ad459, e459, hx459_0, hx459_1, hx459_2⟩ := at_T46 HR0.out x5_1 p459 q459
       obtain rfl : ad458 = ad459 := (by injection e459)
       replace hx459_0 := (HB.out.cell (World.block_lt_of_cell? w _ hx459_0)).trans hx459_0
       replace hx459_1 := (HB.out.cell (World.block_lt_of_cell? w _ hx459_1)).trans hx459_1
       replace hx459_2 := (HB.out.cell (World.block_lt_of_cell? w _ hx459_2)).trans hx459_2
       replace p459 := eq_true p459
       replace q459 := eq_true q459
       go_wp2
       repeat (go_quiet (fail); try go_wp2)
       go_roundg k1
       case measure => have := HK1.out; omega
       case rel => exact ⟨(wrap64 (x5_1 + 1)), (by first | rfl | (simp; done) | (simp [*]; done)), H', ⟨by have := HK1.out; omega⟩, ⟨by (with_reducible repeat (first | refine blk_drewN ?_ _ | refine blk_drew ?_ | refine blk_alloc ?_ _)); exact BK457.out⟩, ⟨by repeat (first | (with_reducible first | exact HB.out | apply below_alloc | apply pw_below_drewN | apply below_drew1 | refine below_set ?_ GE457.out) | exact HB.out)⟩⟩
     ·
      rw [if_neg c6] at H
      have c6b0 : (((rd_T46 l0 x5_1).f0) == a1_0) = false := beq_eq_false_iff_ne.mpr c6
      have c6b1 : (((rd_T46 l0 x5_1).f0) != a1_0) = true := bne_iff_ne.mpr c6
      have H' := Aside0.mk H
      clear H
      have p458 : 0 ≤ (x5_1 : Int) := of_decide_eq_true (by first | (with_reducible assumption) | assumption)
      have q458 : x5_1 < (l0.length : Int) := of_decide_eq_true (by first | (with_reducible assumption) | assumption)
      obtain ⟨ad458, e458, hx458_0, hx458_1, hx458_2⟩ := at_T46 HR0.out x5_1 p458 q458
      cases e458
      replace hx458_0 := (HB.out.cell (World.block_lt_of_cell? w _ hx458_0)).trans hx458_0
      replace hx458_1 := (HB.out.cell (World.block_lt_of_cell? w _ hx458_1)).trans hx458_1
      replace hx458_2 := (HB.out.cell (World.block_lt_of_cell? w _ hx458_2)).trans hx458_2
      replace p458 := eq_true p458
      replace q458 := eq_true q458
      have hcz12_0 : wr.cell? ⟨gb457, 0, none⟩ = some (.int .i64 a1_0) := (blk_cell BK457.out 0).trans rfl
      have hcz12_1 : wr.cell? ⟨gb457, 1, none⟩ = some (.int .i64 a1_1) := (blk_cell BK457.out 1).trans rfl
      have hcz12_2 : wr.cell? ⟨gb457, 2, none⟩ = some (.int .i64 a1_2) := (blk_cell BK457.out 2).trans rfl
      have hfz12_0 := blk_frozen BK457.out 0
      have hfz12_1 := blk_frozen BK457.out 1
      have hfz12_2 := blk_frozen BK457.out 2
      go_wp2
      repeat (go_quiet (fail); try go_wp2)
      go_roundg k1
      case measure => have := HK1.out; omega
      case rel => exact ⟨(wrap64 (x5_1 + 1)), (by first | rfl | (simp; done) | (simp [*]; done)), H', ⟨by have := HK1.out; omega⟩, ⟨by (with_reducible repeat (first | refine blk_drewN ?_ _ | refine blk_drew ?_ | refine blk_alloc ?_ _)); exact BK457.out⟩, ⟨by repeat (first | (with_reducible first | exact HB.out | apply below_alloc | apply pw_below_drewN | apply below_drew1 | refine below_set ?_ GE457.out) | exact HB.out)⟩⟩
    ·
     rw [if_neg c5] at H
     exact absurd H (by simp)
   ·
    rw [if_neg c4] at H
    have c4b0 : decide (x5_1 < (l0.length : Int)) = false := decide_eq_false c4
    clear c4
    obtain rfl := Option.some.inj H
    go_wp2
    repeat (go_quiet (fail); try go_wp2)
    go_ret
    exact ⟨by first | rfl | (simp [errW_none, errW_some] <;> rfl) | (simp [*, errW_none, errW_some] <;> rfl), by repeat (first | (with_reducible first | exact HB.out | apply below_alloc | apply pw_below_drewN | apply below_drew1 | refine below_set ?_ GE457.out) | exact HB.out)⟩
end Go.Proofs.Ytjlbgopgeepiaaa.PConf
namespace Go.Proofs.Ytjlbgopgeepiaaa.PConf
open Go.RowKit Go.Proofs.YtjlbgopgeepiaaaW.PrintWords Go.Proofs.YtjlbgopgeepiaaaW.PrintLast Go.Proofs.YtjlbgopgeepiaaaW.PrintMore
attribute [local go_sem] max2_int min2_int max_two min_two max_three min_three max_four min_four plus_setCell_drewN plus_cell_same   -- for this text's walks alone
set_option linter.unusedVariables false
set_option linter.unusedSimpArgs false
def busbarref12_control.f (a0 : Int) : Option (Int × Int × Int) := some (2, a0, wrap64 (a0 + 8))
set_option maxHeartbeats 8000000 in
set_option maxRecDepth 100000 in
theorem busbarref12_control.calls (a0 : Int) (r1 : Int) (r2 : Int) (r3 : Int) (w : World) (h : busbarref12_control.f a0 = some (r1, r2, r3)) :
  Calls Try.prog 45 #[.int .i64 a0] w fun e w' => e = .returned (.agg #[.int .i64 r1, .int .i64 r2, .int .i64 r3]) ∧ Below w.heap.size w w' := by
 have hu46 := Try.underlying46
 have HB := Aside0.mk (Below.refl w.heap.size w)
 have H : (some (2, a0, wrap64 (a0 + 8))) = some (r1, r2, r3) := h
 clear h
 simp only [Option.some.injEq, Prod.mk.injEq] at H
 obtain ⟨rfl, rfl, rfl⟩ := H
 go_enter Try.func45, Try.ntmps45
 go_wp2_with (first | ((with_reducible refine gate_dst (N := 2) rfl ?_); refine box_event ?hg (N := 2) ?hd (cs := #[.int .i64 0, .int .i64 0, .int .i64 0]) (t := 46) ?hr ?_; (case hd => rfl); (case hg => rfl); (case hr => first | (go_simp; done) | (go_simp; rfl)); intro gb461 hg w2 hbox hb; have n0_ := Aside0.mk (below_step (by repeat (first | (with_reducible first | exact HB.out | apply below_alloc | apply pw_below_drewN | apply below_drew1) | exact HB.out)) hb); have n1_ := Aside0.mk (hbox); have n2_ := Aside0.mk ((by rw [hg]; exact (below_size (by repeat (first | (with_reducible first | exact HB.out | apply below_alloc | apply pw_below_drewN | apply below_drew1) | exact HB.out))) : w.heap.size ≤ gb461)); have n3_ := Aside0.mk ((by rw [hg]; exact (below_size (by repeat (first | (with_reducible first | exact HB.out | apply below_alloc | apply pw_below_drewN | apply below_drew1) | exact HB.out))) : w.heap.size ≤ gb461)); clear HB; have HB := n0_; have BK461 := n1_; have GW461 := n2_; have GE461 := n3_; clear n0_ n1_ n2_ n3_; clear hb hbox hg; have hcz3_0 : w2.cell? ⟨gb461, 0, none⟩ = some (.int .i64 0) := (blk_cell BK461.out 0).trans rfl; have hcz3_1 : w2.cell? ⟨gb461, 1, none⟩ = some (.int .i64 0) := (blk_cell BK461.out 1).trans rfl; have hcz3_2 : w2.cell? ⟨gb461, 2, none⟩ = some (.int .i64 0) := (blk_cell BK461.out 2).trans rfl; have hfz3_0 := blk_frozen BK461.out 0; have hfz3_1 := blk_frozen BK461.out 1; have hfz3_2 := blk_frozen BK461.out 2))
 refine bodyPost_ret (results_cell_row rfl _ _ gb461 46 #[.int .i64 2, .int .i64 a0, .int .i64 (wrap64 (a0 + 8))] (0, 0) _ rfl (by (with_reducible repeat (first | refine blk_drewN ?_ _ | refine blk_drew ?_ | refine blk_alloc ?_ _)); refine blk_put (cs := #[.int .i64 2, .int .i64 a0, .int .i64 0]) ?_ 2 _ rfl; (with_reducible repeat (first | refine blk_drewN ?_ _ | refine blk_drew ?_ | refine blk_alloc ?_ _)); refine blk_put (cs := #[.int .i64 2, .int .i64 0, .int .i64 0]) ?_ 1 _ rfl; (with_reducible repeat (first | refine blk_drewN ?_ _ | refine blk_drew ?_ | refine blk_alloc ?_ _)); refine blk_put (cs := #[.int .i64 0, .int .i64 0, .int .i64 0]) ?_ 0 _ rfl; (with_reducible repeat (first | refine blk_drewN ?_ _ | refine blk_drew ?_ | refine blk_alloc ?_ _)); exact BK461.out) Try.underlying46 rfl (by kernel_rfl)) rfl ?_
 exact ⟨by first | rfl | (simp [errW_none, errW_some] <;> rfl) | (simp [*, errW_none, errW_some] <;> rfl), by repeat (first | (with_reducible first | exact HB.out | apply below_alloc | apply pw_below_drewN | apply below_drew1 | refine below_set ?_ GE461.out) | exact HB.out)⟩
end Go.Proofs.Ytjlbgopgeepiaaa.PConf
namespace Go.Proofs.Ytjlbgopgeepiaaa.PConf
open Go.RowKit Go.Proofs.YtjlbgopgeepiaaaW.PrintWords Go.Proofs.YtjlbgopgeepiaaaW.PrintLast Go.Proofs.YtjlbgopgeepiaaaW.PrintMore
attribute [local go_sem] max2_int min2_int max_two min_two max_three min_three max_four min_four plus_setCell_drewN plus_cell_same   -- for this text's walks alone
set_option linter.unusedVariables false
set_option linter.unusedSimpArgs false
def busbarref12_Plan.j0 : Nat → List (S46) → Int → Bool → Option (Int)
 | 0, _, _, _ => none
 | k + 1, x0, x1, x10 => if x10 = true then (some 1) else ((busbarref12_Canon.f k x0).bind fun t462 => (if t462 = true then ((busbarref12_control.f x1).bind fun bt463 => ((busbarref12_Meets.f k x0 bt463.1 bt463.2.1 bt463.2.2).bind fun t466 => (if t466 = true then (some 6) else (some 0)))) else (some 2)))
def busbarref12_Plan.f (k : Nat) (l0 : List (S46)) (a1 : Int) : Option (Int) := if a1 < 0 then (busbarref12_Plan.j0 k l0 a1 true) else (busbarref12_Plan.j0 k l0 a1 (decide (a1 > 65528)))
theorem busbarref12_Plan.mono_l : ∀ k, (∀ y0 y1 y2, LeO (busbarref12_Plan.j0 k y0 y1 y2) (busbarref12_Plan.j0 (k + 1) y0 y1 y2))
 | 0 => fun _ _ _ r h => by simp [busbarref12_Plan.j0] at h
 | k + 1 => by
  have ih0 := busbarref12_Plan.mono_l k
  ·
   intro y0 y1 y2
   unfold busbarref12_Plan.j0
   repeat' first
   | (with_reducible exact ih0 _ _ _)
   | (with_reducible exact busbarref12_Canon.mono _ _)
   | (with_reducible exact busbarref12_Meets.mono _ _ _ _ _)
   | (with_reducible exact LeO.refl _)
   | (with_reducible exact LeO.none _)
   | (with_reducible refine LeO.ite ?_ ?_)
   | (with_reducible refine LeO.bind ?_ (fun _ => ?_))
   | exact ih0 _ _ _
   | exact busbarref12_Canon.mono _ _
   | exact busbarref12_Meets.mono _ _ _ _ _
   | exact LeO.none _
   | refine LeO.ite ?_ ?_
   | refine LeO.bind ?_ (fun _ => ?_)
theorem busbarref12_Plan.mono : ∀ a0 a1 k, LeO (busbarref12_Plan.f k a0 a1) (busbarref12_Plan.f (k + 1) a0 a1) := by
 intro a0 a1 k
 have ih0 := busbarref12_Plan.mono_l k
 unfold busbarref12_Plan.f
 repeat' first
   | (with_reducible exact ih0 _ _ _)
   | (with_reducible exact busbarref12_Canon.mono _ _)
   | (with_reducible exact busbarref12_Meets.mono _ _ _ _ _)
   | (with_reducible exact LeO.refl _)
   | (with_reducible exact LeO.none _)
   | (with_reducible refine LeO.ite ?_ ?_)
   | (with_reducible refine LeO.bind ?_ (fun _ => ?_))
   | exact ih0 _ _ _
   | exact busbarref12_Canon.mono _ _
   | exact busbarref12_Meets.mono _ _ _ _ _
   | exact LeO.none _
   | refine LeO.ite ?_ ?_
   | refine LeO.bind ?_ (fun _ => ?_)
set_option maxHeartbeats 8000000 in
set_option maxRecDepth 100000 in
theorem busbarref12_Plan.calls (k : Nat) (A0 : Option Addr) (c0 : Nat) (l0 : List (S46)) (a1 : Int) (r : Int) (w : World) (hr0 : Kd.C k46 w A0 l0.length l0) (hc0 : l0.length ≤ c0) (h : busbarref12_Plan.f k l0 a1 = some r) :
  Calls Try.prog 23 #[.slice A0 l0.length c0, .int .i64 a1] w fun e w' => e = .returned (.int .i64 r) ∧ Below w.heap.size w w' := by
 have HR0 := Aside0.mk hr0
 have HC0 := Aside0.mk hc0
 clear hr0 hc0
 have HB := Aside0.mk (Below.refl w.heap.size w)
 have H : (if a1 < 0 then (busbarref12_Plan.j0 k l0 a1 true) else (busbarref12_Plan.j0 k l0 a1 (decide (a1 > 65528)))) = some r := h
 clear h
 have HC3 := Aside0.mk H
 clear H
 go_enter Try.func23, Try.ntmps23
 go_upto_region 1 with (fail)
 go_cut [10] (fun v10 wc => ∃ (kq : Nat) (x10_2 : Bool), v10 = .bool x10_2 ∧ Aside0 (busbarref12_Plan.j0 kq l0 a1 x10_2 = some r) ∧ Aside0 (kq ≤ k) ∧ Aside0 (Below w.heap.size w wc))
 case first =>
  have H := HC3.out
  clear HC3
  by_cases c4 : a1 < 0
  ·
   rw [if_pos c4] at H
   have c4b0 : decide (a1 < 0) = true := decide_eq_true c4
   clear c4
   (first | rw [c4b0] | (simp only [i64_w, i32_w]; rw [c4b0]) | skip)
   have H' := Aside0.mk H
   clear H
   go_wp2
   go_meet
   case rel => exact ⟨_, (true), (by first | rfl | (simp; done) | (simp [*]; done)), H', ⟨by first | omega | exact Nat.le_refl _⟩, ⟨by repeat (first | (with_reducible first | exact HB.out | apply below_alloc | apply pw_below_drewN | apply below_drew1) | exact HB.out)⟩⟩
  ·
   rw [if_neg c4] at H
   have c4b0 : decide (a1 < 0) = false := decide_eq_false c4
   clear c4
   (first | rw [c4b0] | (simp only [i64_w, i32_w]; rw [c4b0]) | skip)
   have H' := Aside0.mk H
   clear H
   go_wp2
   go_meet
   case rel => exact ⟨_, (decide (a1 > 65528)), (by first | rfl | (simp; done) | (simp [*]; done)), H', ⟨by first | omega | exact Nat.le_refl _⟩, ⟨by repeat (first | (with_reducible first | exact HB.out | apply below_alloc | apply pw_below_drewN | apply below_drew1) | exact HB.out)⟩⟩
 case rest =>
  clear HC3
  try clear c2
  try clear p2
  try clear c4
  try clear c4b0
  obtain ⟨kq, x10_2, rfl, HA, HJ2, HB⟩ := hcut
  cases kq with
  | zero => exact absurd HA.out (by simp [busbarref12_Plan.j0])
  | succ kj2 =>
   have H := HA.out
   clear HA
   simp only [busbarref12_Plan.j0] at H
   by_cases c5 : x10_2 = true
   ·
    subst c5
    have H1 : (some 1) = some r := by rw [if_pos rfl] at H; exact H
    clear H
    have H := H1
    clear H1
    obtain rfl := Option.some.inj H
    go_wp2
    go_ret
    exact ⟨by first | rfl | (simp [errW_none, errW_some] <;> rfl) | (simp [*, errW_none, errW_some] <;> rfl), by repeat (first | (with_reducible first | exact HB.out | apply below_alloc | apply pw_below_drewN | apply below_drew1) | exact HB.out)⟩
   ·
    replace c5 := Bool.eq_false_iff.mpr c5
    subst c5
    have H1 : ((busbarref12_Canon.f kj2 l0).bind fun t462 => (if t462 = true then ((busbarref12_control.f a1).bind fun bt463 => ((busbarref12_Meets.f kj2 l0 bt463.1 bt463.2.1 bt463.2.2).bind fun t466 => (if t466 = true then (some 6) else (some 0)))) else (some 2))) = some r := by rw [if_neg (show ¬ (false = true) by decide)] at H; exact H
    clear H
    have H := H1
    clear H1
    replace H := Option.bind_eq_some_iff.mp H
    obtain ⟨t462, A60, H⟩ := H
    replace H : (if t462 = true then ((busbarref12_control.f a1).bind fun bt463 => ((busbarref12_Meets.f kj2 l0 bt463.1 bt463.2.1 bt463.2.2).bind fun t466 => (if t466 = true then (some 6) else (some 0)))) else (some 2)) = some r := H
    have A6 := Aside0.mk A60
    clear A60
    by_cases c7 : t462 = true
    ·
     subst c7
     have H1 : ((busbarref12_control.f a1).bind fun bt463 => ((busbarref12_Meets.f kj2 l0 bt463.1 bt463.2.1 bt463.2.2).bind fun t466 => (if t466 = true then (some 6) else (some 0)))) = some r := by rw [if_pos rfl] at H; exact H
     clear H
     have H := H1
     clear H1
     replace H := Option.bind_eq_some_iff.mp H
     obtain ⟨⟨t463, t464, t465⟩, A80, H⟩ := H
     replace H : ((busbarref12_Meets.f kj2 l0 t463 t464 t465).bind fun t466 => (if t466 = true then (some 6) else (some 0))) = some r := H
     have A8 := Aside0.mk A80
     clear A80
     replace H := Option.bind_eq_some_iff.mp H
     obtain ⟨t466, A90, H⟩ := H
     replace H : (if t466 = true then (some 6) else (some 0)) = some r := H
     have A9 := Aside0.mk A90
     clear A90
     by_cases c10 : t466 = true
     ·
      subst c10
      have H1 : (some 6) = some r := by rw [if_pos rfl] at H; exact H
      clear H
      have H := H1
      clear H1
      obtain rfl := Option.some.inj H
      go_wp2_with (first | ((with_reducible refine gate_callee (f := 43) rfl ?_); refine goesL_ (some 12) rfl rfl Try.func43 (by kernel_rfl) rfl #[.slice A0 l0.length c0] rfl (by (try simp only [List.map_toArray, List.map_cons, List.map_nil]); first | done | rfl | (simp only [List.length_drop, List.length_take]; rfl)) ?_; (with_reducible refine (busbarref12_Canon.calls kj2 _ _ l0 true _ ?side1 ?side2 A6.out).mono ?_); (case side1 => repeat (first | exact (Kd.C_below HR0.out HB.out) | (with_reducible refine Kd.C_alloc ?_ _) | (with_reducible refine Kd.C_drewN ?_ _) | (with_reducible refine Kd.C_drew ?_))); (case side2 => exact HC0.out); rintro e w11 ⟨rfl, hb⟩; refine ⟨_, rfl, ?_⟩; have n0_ := Aside0.mk (below_step (by repeat (first | (with_reducible first | exact HB.out | apply below_alloc | apply pw_below_drewN | apply below_drew1) | exact HB.out)) hb); clear HB; have HB := n0_; clear n0_; (try clear hb); (try clear hb2); (try clear hk); (try clear hi)) | ((with_reducible refine gate_callee (f := 45) rfl ?_); refine goesL_ (some 16) rfl rfl Try.func45 (by kernel_rfl) rfl #[.int .i64 a1] rfl (by (try simp only [List.map_toArray, List.map_cons, List.map_nil]); first | done | rfl | (simp only [List.length_drop, List.length_take]; rfl)) ?_; (with_reducible refine (busbarref12_control.calls a1 t463 t464 t465 _ A8.out).mono ?_); rintro e w12 ⟨rfl, hb⟩; refine ⟨_, rfl, ?_⟩; have n0_ := Aside0.mk (below_step (by repeat (first | (with_reducible first | exact HB.out | apply below_alloc | apply pw_below_drewN | apply below_drew1) | exact HB.out)) hb); clear HB; have HB := n0_; clear n0_; (try clear hb); (try clear hb2); (try clear hk); (try clear hi)) | ((with_reducible refine gate_callee (f := 44) rfl ?_); refine goesL_ (some 17) rfl rfl Try.func44 (by kernel_rfl) rfl #[.slice A0 l0.length c0, .agg #[.int .i64 t463, .int .i64 t464, .int .i64 t465]] rfl (by (try simp only [List.map_toArray, List.map_cons, List.map_nil]); first | done | rfl | (simp only [List.length_drop, List.length_take]; rfl)) ?_; (with_reducible refine (busbarref12_Meets.calls kj2 _ _ l0 t463 t464 t465 true _ ?side1 ?side2 A9.out).mono ?_); (case side1 => repeat (first | exact (Kd.C_below HR0.out HB.out) | (with_reducible refine Kd.C_alloc ?_ _) | (with_reducible refine Kd.C_drewN ?_ _) | (with_reducible refine Kd.C_drew ?_))); (case side2 => exact HC0.out); rintro e w13 ⟨rfl, hb⟩; refine ⟨_, rfl, ?_⟩; have n0_ := Aside0.mk (below_step (by repeat (first | (with_reducible first | exact HB.out | apply below_alloc | apply pw_below_drewN | apply below_drew1) | exact HB.out)) hb); clear HB; have HB := n0_; clear n0_; (try clear hb); (try clear hb2); (try clear hk); (try clear hi)))
      go_ret
      exact ⟨by first | rfl | (simp [errW_none, errW_some] <;> rfl) | (simp [*, errW_none, errW_some] <;> rfl), by repeat (first | (with_reducible first | exact HB.out | apply below_alloc | apply pw_below_drewN | apply below_drew1) | exact HB.out)⟩
     ·
      replace c10 := Bool.eq_false_iff.mpr c10
      subst c10
      have H1 : (some 0) = some r := by rw [if_neg (show ¬ (false = true) by decide)] at H; exact H
      clear H
      have H := H1
      clear H1
      obtain rfl := Option.some.inj H
      go_wp2_with (first | ((with_reducible refine gate_callee (f := 43) rfl ?_); refine goesL_ (some 12) rfl rfl Try.func43 (by kernel_rfl) rfl #[.slice A0 l0.length c0] rfl (by (try simp only [List.map_toArray, List.map_cons, List.map_nil]); first | done | rfl | (simp only [List.length_drop, List.length_take]; rfl)) ?_; (with_reducible refine (busbarref12_Canon.calls kj2 _ _ l0 true _ ?side1 ?side2 A6.out).mono ?_); (case side1 => repeat (first | exact (Kd.C_below HR0.out HB.out) | (with_reducible refine Kd.C_alloc ?_ _) | (with_reducible refine Kd.C_drewN ?_ _) | (with_reducible refine Kd.C_drew ?_))); (case side2 => exact HC0.out); rintro e w14 ⟨rfl, hb⟩; refine ⟨_, rfl, ?_⟩; have n0_ := Aside0.mk (below_step (by repeat (first | (with_reducible first | exact HB.out | apply below_alloc | apply pw_below_drewN | apply below_drew1) | exact HB.out)) hb); clear HB; have HB := n0_; clear n0_; (try clear hb); (try clear hb2); (try clear hk); (try clear hi)) | ((with_reducible refine gate_callee (f := 45) rfl ?_); refine goesL_ (some 16) rfl rfl Try.func45 (by kernel_rfl) rfl #[.int .i64 a1] rfl (by (try simp only [List.map_toArray, List.map_cons, List.map_nil]); first | done | rfl | (simp only [List.length_drop, List.length_take]; rfl)) ?_; (with_reducible refine (busbarref12_control.calls a1 t463 t464 t465 _ A8.out).mono ?_); rintro e w15 ⟨rfl, hb⟩; refine ⟨_, rfl, ?_⟩; have n0_ := Aside0.mk (below_step (by repeat (first | (with_reducible first | exact HB.out | apply below_alloc | apply pw_below_drewN | apply below_drew1) | exact HB.out)) hb); clear HB; have HB := n0_; clear n0_; (try clear hb); (try clear hb2); (try clear hk); (try clear hi)) | ((with_reducible refine gate_callee (f := 44) rfl ?_); refine goesL_ (some 17) rfl rfl Try.func44 (by kernel_rfl) rfl #[.slice A0 l0.length c0, .agg #[.int .i64 t463, .int .i64 t464, .int .i64 t465]] rfl (by (try simp only [List.map_toArray, List.map_cons, List.map_nil]); first | done | rfl | (simp only [List.length_drop, List.length_take]; rfl)) ?_; (with_reducible refine (busbarref12_Meets.calls kj2 _ _ l0 t463 t464 t465 false _ ?side1 ?side2 A9.out).mono ?_); (case side1 => repeat (first | exact (Kd.C_below HR0.out HB.out) | (with_reducible refine Kd.C_alloc ?_ _) | (with_reducible refine Kd.C_drewN ?_ _) | (with_reducible refine Kd.C_drew ?_))); (case side2 => exact HC0.out); rintro e w16 ⟨rfl, hb⟩; refine ⟨_, rfl, ?_⟩; have n0_ := Aside0.mk (below_step (by repeat (first | (with_reducible first | exact HB.out | apply below_alloc | apply pw_below_drewN | apply below_drew1) | exact HB.out)) hb); clear HB; have HB := n0_; clear n0_; (try clear hb); (try clear hb2); (try clear hk); (try clear hi)))
      go_ret
      exact ⟨by first | rfl | (simp [errW_none, errW_some] <;> rfl) | (simp [*, errW_none, errW_some] <;> rfl), by repeat (first | (with_reducible first | exact HB.out | apply below_alloc | apply pw_below_drewN | apply below_drew1) | exact HB.out)⟩
    ·
     replace c7 := Bool.eq_false_iff.mpr c7
     subst c7
     have H1 : (some 2) = some r := by rw [if_neg (show ¬ (false = true) by decide)] at H; exact H
     clear H
     have H := H1
     clear H1
     obtain rfl := Option.some.inj H
     go_wp2_with (first | ((with_reducible refine gate_callee (f := 43) rfl ?_); refine goesL_ (some 12) rfl rfl Try.func43 (by kernel_rfl) rfl #[.slice A0 l0.length c0] rfl (by (try simp only [List.map_toArray, List.map_cons, List.map_nil]); first | done | rfl | (simp only [List.length_drop, List.length_take]; rfl)) ?_; (with_reducible refine (busbarref12_Canon.calls kj2 _ _ l0 false _ ?side1 ?side2 A6.out).mono ?_); (case side1 => repeat (first | exact (Kd.C_below HR0.out HB.out) | (with_reducible refine Kd.C_alloc ?_ _) | (with_reducible refine Kd.C_drewN ?_ _) | (with_reducible refine Kd.C_drew ?_))); (case side2 => exact HC0.out); rintro e w17 ⟨rfl, hb⟩; refine ⟨_, rfl, ?_⟩; have n0_ := Aside0.mk (below_step (by repeat (first | (with_reducible first | exact HB.out | apply below_alloc | apply pw_below_drewN | apply below_drew1) | exact HB.out)) hb); clear HB; have HB := n0_; clear n0_; (try clear hb); (try clear hb2); (try clear hk); (try clear hi)))
     go_ret
     exact ⟨by first | rfl | (simp [errW_none, errW_some] <;> rfl) | (simp [*, errW_none, errW_some] <;> rfl), by repeat (first | (with_reducible first | exact HB.out | apply below_alloc | apply pw_below_drewN | apply below_drew1) | exact HB.out)⟩
end Go.Proofs.Ytjlbgopgeepiaaa.PConf
namespace Go.Proofs.Ytjlbgopgeepiaaa.PConf
open Go.RowKit Go.Proofs.YtjlbgopgeepiaaaW.PrintWords Go.Proofs.YtjlbgopgeepiaaaW.PrintLast Go.Proofs.YtjlbgopgeepiaaaW.PrintMore
attribute [local go_sem] max2_int min2_int max_two min_two max_three min_three max_four min_four plus_setCell_drewN plus_cell_same   -- for this text's walks alone
set_option linter.unusedVariables false
set_option linter.unusedSimpArgs false
def busbarref12_Covers.l0 : Nat → List (S46) → Int → Int → Int → Int → Option (Bool)
 | 0, _, _, _, _, _ => none
 | k + 1, x0, x5, x468000, x468001, x468002 => if x5 < (x0.length : Int) then (if 0 ≤ x5 then (if ((rd_T46 x0 x5).f0) = x468000 then (if ((rd_T46 x0 x5).f1) ≤ x468001 then (if x468002 ≤ ((rd_T46 x0 x5).f2) then (some true) else (busbarref12_Covers.l0 k x0 (wrap64 (x5 + 1)) x468000 x468001 x468002)) else (busbarref12_Covers.l0 k x0 (wrap64 (x5 + 1)) x468000 x468001 x468002)) else (busbarref12_Covers.l0 k x0 (wrap64 (x5 + 1)) x468000 x468001 x468002)) else (none)) else (some false)
def busbarref12_Covers.f (k : Nat) (l0 : List (S46)) (a1_0 : Int) (a1_1 : Int) (a1_2 : Int) : Option (Bool) := busbarref12_Covers.l0 k l0 0 a1_0 a1_1 a1_2
theorem busbarref12_Covers.mono_l : ∀ k, (∀ y0 y1 y2 y3 y4, LeO (busbarref12_Covers.l0 k y0 y1 y2 y3 y4) (busbarref12_Covers.l0 (k + 1) y0 y1 y2 y3 y4))
 | 0 => fun _ _ _ _ _ r h => by simp [busbarref12_Covers.l0] at h
 | k + 1 => by
  have ih0 := busbarref12_Covers.mono_l k
  ·
   intro y0 y1 y2 y3 y4
   unfold busbarref12_Covers.l0
   repeat' first
   | (with_reducible exact ih0 _ _ _ _ _)
   | (with_reducible exact LeO.refl _)
   | (with_reducible exact LeO.none _)
   | (with_reducible refine LeO.ite ?_ ?_)
   | (with_reducible refine LeO.bind ?_ (fun _ => ?_))
   | exact ih0 _ _ _ _ _
   | exact LeO.none _
   | refine LeO.ite ?_ ?_
   | refine LeO.bind ?_ (fun _ => ?_)
theorem busbarref12_Covers.mono : ∀ a0 a1 a2 a3 k, LeO (busbarref12_Covers.f k a0 a1 a2 a3) (busbarref12_Covers.f (k + 1) a0 a1 a2 a3) := by
 intro a0 a1 a2 a3 k
 have ih0 := busbarref12_Covers.mono_l k
 unfold busbarref12_Covers.f
 repeat' first
   | (with_reducible exact ih0 _ _ _ _ _)
   | (with_reducible exact LeO.refl _)
   | (with_reducible exact LeO.none _)
   | (with_reducible refine LeO.ite ?_ ?_)
   | (with_reducible refine LeO.bind ?_ (fun _ => ?_))
   | exact ih0 _ _ _ _ _
   | exact LeO.none _
   | refine LeO.ite ?_ ?_
   | refine LeO.bind ?_ (fun _ => ?_)
set_option maxHeartbeats 8000000 in
set_option maxRecDepth 100000 in
theorem busbarref12_Covers.calls (k : Nat) (A0 : Option Addr) (c0 : Nat) (l0 : List (S46)) (a1_0 : Int) (a1_1 : Int) (a1_2 : Int) (r : Bool) (w : World) (hr0 : Kd.C k46 w A0 l0.length l0) (hc0 : l0.length ≤ c0) (h : busbarref12_Covers.f k l0 a1_0 a1_1 a1_2 = some r) :
  Calls Try.prog 46 #[.slice A0 l0.length c0, .agg #[.int .i64 a1_0, .int .i64 a1_1, .int .i64 a1_2]] w fun e w' => e = .returned (.bool r) ∧ Below w.heap.size w w' := by
 have hu46 := Try.underlying46
 have HR0 := Aside0.mk hr0
 have HC0 := Aside0.mk hc0
 clear hr0 hc0
 have HB := Aside0.mk (Below.refl w.heap.size w)
 have H : (busbarref12_Covers.l0 k l0 0 a1_0 a1_1 a1_2) = some r := h
 clear h
 have H' := Aside0.mk H
 clear H
 go_enter Try.func46, Try.ntmps46
 go_wp2_with (first | ((with_reducible refine gate_dst (N := 3) rfl ?_); refine box_event ?hg (N := 3) ?hd (cs := #[.int .i64 a1_0, .int .i64 a1_1, .int .i64 a1_2]) (t := 46) ?hr ?_; (case hd => rfl); (case hg => rfl); (case hr => first | (go_simp; done) | (go_simp; rfl)); intro gb467 hg w3 hbox hb; have n0_ := Aside0.mk (below_step (by repeat (first | (with_reducible first | exact HB.out | apply below_alloc | apply pw_below_drewN | apply below_drew1) | exact HB.out)) hb); have n1_ := Aside0.mk (hbox); have n2_ := Aside0.mk ((by rw [hg]; exact (below_size (by repeat (first | (with_reducible first | exact HB.out | apply below_alloc | apply pw_below_drewN | apply below_drew1) | exact HB.out))) : w.heap.size ≤ gb467)); have n3_ := Aside0.mk ((by rw [hg]; exact (below_size (by repeat (first | (with_reducible first | exact HB.out | apply below_alloc | apply pw_below_drewN | apply below_drew1) | exact HB.out))) : w.heap.size ≤ gb467)); clear HB; have HB := n0_; have BK467 := n1_; have GW467 := n2_; have GE467 := n3_; clear n0_ n1_ n2_ n3_; clear hb hbox hg))
 repeat (go_quiet (first | ((with_reducible refine gate_dst (N := 3) rfl ?_); refine box_event ?hg (N := 3) ?hd (cs := #[.int .i64 a1_0, .int .i64 a1_1, .int .i64 a1_2]) (t := 46) ?hr ?_; (case hd => rfl); (case hg => rfl); (case hr => first | (go_simp; done) | (go_simp; rfl)); intro gb467 hg w3 hbox hb; have n0_ := Aside0.mk (below_step (by repeat (first | (with_reducible first | exact HB.out | apply below_alloc | apply pw_below_drewN | apply below_drew1) | exact HB.out)) hb); have n1_ := Aside0.mk (hbox); have n2_ := Aside0.mk ((by rw [hg]; exact (below_size (by repeat (first | (with_reducible first | exact HB.out | apply below_alloc | apply pw_below_drewN | apply below_drew1) | exact HB.out))) : w.heap.size ≤ gb467)); have n3_ := Aside0.mk ((by rw [hg]; exact (below_size (by repeat (first | (with_reducible first | exact HB.out | apply below_alloc | apply pw_below_drewN | apply below_drew1) | exact HB.out))) : w.heap.size ≤ gb467)); clear HB; have HB := n0_; have BK467 := n1_; have GW467 := n2_; have GE467 := n3_; clear n0_ n1_ n2_ n3_; clear hb hbox hg)); try go_wp2_with (first | ((with_reducible refine gate_dst (N := 3) rfl ?_); refine box_event ?hg (N := 3) ?hd (cs := #[.int .i64 a1_0, .int .i64 a1_1, .int .i64 a1_2]) (t := 46) ?hr ?_; (case hd => rfl); (case hg => rfl); (case hr => first | (go_simp; done) | (go_simp; rfl)); intro gb467 hg w3 hbox hb; have n0_ := Aside0.mk (below_step (by repeat (first | (with_reducible first | exact HB.out | apply below_alloc | apply pw_below_drewN | apply below_drew1) | exact HB.out)) hb); have n1_ := Aside0.mk (hbox); have n2_ := Aside0.mk ((by rw [hg]; exact (below_size (by repeat (first | (with_reducible first | exact HB.out | apply below_alloc | apply pw_below_drewN | apply below_drew1) | exact HB.out))) : w.heap.size ≤ gb467)); have n3_ := Aside0.mk ((by rw [hg]; exact (below_size (by repeat (first | (with_reducible first | exact HB.out | apply below_alloc | apply pw_below_drewN | apply below_drew1) | exact HB.out))) : w.heap.size ≤ gb467)); clear HB; have HB := n0_; have BK467 := n1_; have GW467 := n2_; have GE467 := n3_; clear n0_ n1_ n2_ n3_; clear hb hbox hg)))
 go_loopg [5] k (fun kq v5 w' => ∃ (x5_1 : Int), v5 = .int .i64 x5_1 ∧ Aside0 (busbarref12_Covers.l0 kq l0 x5_1 a1_0 a1_1 a1_2 = some r) ∧ Aside0 (kq ≤ k) ∧ Aside0 (w'.heap[gb467]? = some (.cells #[.int .i64 a1_0, .int .i64 a1_1, .int .i64 a1_2] 46 (0, 0))) ∧ Aside0 (Below w.heap.size w w'))
 case atStart => exact ⟨(0), (by first | rfl | (simp; done) | (simp [*]; done)), H', ⟨Nat.le_refl _⟩, ⟨by (with_reducible repeat (first | refine blk_drewN ?_ _ | refine blk_drew ?_ | refine blk_alloc ?_ _)); exact BK467.out⟩, ⟨by repeat (first | (with_reducible first | exact HB.out | apply below_alloc | apply pw_below_drewN | apply below_drew1 | refine below_set ?_ GE467.out) | exact HB.out)⟩⟩
 case round =>
  clear H'
  try clear p2
  obtain ⟨x5_1, rfl, HA, HK1, BK467, HB⟩ := hrel
  cases gk with
  | zero => exact absurd HA.out (by simp [busbarref12_Covers.l0])
  | succ k1 =>
   have H := HA.out
   clear HA
   simp only [busbarref12_Covers.l0] at H
   by_cases c4 : x5_1 < (l0.length : Int)
   ·
    rw [if_pos c4] at H
    have c4b0 : decide (x5_1 < (l0.length : Int)) = true := decide_eq_true c4
    clear c4
    by_cases c5 : 0 ≤ x5_1
    ·
     rw [if_pos c5] at H
     have c5b0 : decide (0 ≤ x5_1) = true := decide_eq_true c5
     clear c5
     by_cases c6 : ((rd_T46 l0 x5_1).f0) = a1_0
     ·
      rw [if_pos c6] at H
      have c6b0 : (((rd_T46 l0 x5_1).f0) == a1_0) = true := beq_iff_eq.mpr c6
      have c6b1 : (((rd_T46 l0 x5_1).f0) != a1_0) = false := bne_eq_false_iff_eq.mpr c6
      clear c6
      by_cases c7 : ((rd_T46 l0 x5_1).f1) ≤ a1_1
      ·
       rw [if_pos c7] at H
       have c7b0 : decide (((rd_T46 l0 x5_1).f1) ≤ a1_1) = true := decide_eq_true c7
       clear c7
       by_cases c8 : a1_2 ≤ ((rd_T46 l0 x5_1).f2)
       ·
        rw [if_pos c8] at H
        have c8b0 : decide (a1_2 ≤ ((rd_T46 l0 x5_1).f2)) = true := decide_eq_true c8
        clear c8
        obtain rfl := Option.some.inj H
        have p468 : 0 ≤ (x5_1 : Int) := of_decide_eq_true (by first | (with_reducible assumption) | assumption)
        have q468 : x5_1 < (l0.length : Int) := of_decide_eq_true (by first | (with_reducible assumption) | assumption)
        obtain ⟨ad468, e468, hx468_0, hx468_1, hx468_2⟩ := at_T46 HR0.out x5_1 p468 q468
        cases e468
        replace hx468_0 := (HB.out.cell (World.block_lt_of_cell? w _ hx468_0)).trans hx468_0
        replace hx468_1 := (HB.out.cell (World.block_lt_of_cell? w _ hx468_1)).trans hx468_1
        replace hx468_2 := (HB.out.cell (World.block_lt_of_cell? w _ hx468_2)).trans hx468_2
        replace p468 := eq_true p468
        replace q468 := eq_true q468
        have hcz9_0 : wr.cell? ⟨gb467, 0, none⟩ = some (.int .i64 a1_0) := (blk_cell BK467.out 0).trans rfl
        have hcz9_1 : wr.cell? ⟨gb467, 1, none⟩ = some (.int .i64 a1_1) := (blk_cell BK467.out 1).trans rfl
        have hcz9_2 : wr.cell? ⟨gb467, 2, none⟩ = some (.int .i64 a1_2) := (blk_cell BK467.out 2).trans rfl
        have hfz9_0 := blk_frozen BK467.out 0
        have hfz9_1 := blk_frozen BK467.out 1
        have hfz9_2 := blk_frozen BK467.out 2
        have p469 : 0 ≤ (x5_1 : Int) := of_decide_eq_true (by first | (with_reducible assumption) | assumption)
        have q469 : x5_1 < (l0.length : Int) := of_decide_eq_true (by first | (with_reducible assumption) | assumption)
        obtain ⟨ad469, e469, hx469_0, hx469_1, hx469_2⟩ := at_T46 HR0.out x5_1 p469 q469
        obtain rfl : ad468 = ad469 := (by injection e469)
        replace hx469_0 := (HB.out.cell (World.block_lt_of_cell? w _ hx469_0)).trans hx469_0
        replace hx469_1 := (HB.out.cell (World.block_lt_of_cell? w _ hx469_1)).trans hx469_1
        replace hx469_2 := (HB.out.cell (World.block_lt_of_cell? w _ hx469_2)).trans hx469_2
        replace p469 := eq_true p469
        replace q469 := eq_true q469
        have p470 : 0 ≤ (x5_1 : Int) := of_decide_eq_true (by first | (with_reducible assumption) | assumption)
        have q470 : x5_1 < (l0.length : Int) := of_decide_eq_true (by first | (with_reducible assumption) | assumption)
        obtain ⟨ad470, e470, hx470_0, hx470_1, hx470_2⟩ := at_T46 HR0.out x5_1 p470 q470
        obtain rfl : ad468 = ad470 := (by injection e470)
        replace hx470_0 := (HB.out.cell (World.block_lt_of_cell? w _ hx470_0)).trans hx470_0
        replace hx470_1 := (HB.out.cell (World.block_lt_of_cell? w _ hx470_1)).trans hx470_1
        replace hx470_2 := (HB.out.cell (World.block_lt_of_cell? w _ hx470_2)).trans hx470_2
        replace p470 := eq_true p470
        replace q470 := eq_true q470
        go_wp2
        repeat (go_quiet (fail); try go_wp2)
        go_ret
        exact ⟨by first | rfl | (simp [errW_none, errW_some] <;> rfl) | (simp [*, errW_none, errW_some] <;> rfl), by repeat (first | (with_reducible first | exact HB.out | apply below_alloc | apply pw_below_drewN | apply below_drew1 | refine below_set ?_ GE467.out) | exact HB.out)⟩
       ·
        rw [if_neg c8] at H
        have c8b0 : decide (a1_2 ≤ ((rd_T46 l0 x5_1).f2)) = false := decide_eq_false c8
        clear c8
        have H' := Aside0.mk H
        clear H
        have p468 : 0 ≤ (x5_1 : Int) := of_decide_eq_true (by first | (with_reducible assumption) | assumption)
        have q468 : x5_1 < (l0.length : Int) := of_decide_eq_true (by first | (with_reducible assumption) | assumption)
        obtain ⟨ad468, e468, hx468_0, hx468_1, hx468_2⟩ := at_T46 HR0.out x5_1 p468 q468
        cases e468
        replace hx468_0 := (HB.out.cell (World.block_lt_of_cell? w _ hx468_0)).trans hx468_0
        replace hx468_1 := (HB.out.cell (World.block_lt_of_cell? w _ hx468_1)).trans hx468_1
        replace hx468_2 := (HB.out.cell (World.block_lt_of_cell? w _ hx468_2)).trans hx468_2
        replace p468 := eq_true p468
        replace q468 := eq_true q468
        have hcz10_0 : wr.cell? ⟨gb467, 0, none⟩ = some (.int .i64 a1_0) := (blk_cell BK467.out 0).trans rfl
        have hcz10_1 : wr.cell? ⟨gb467, 1, none⟩ = some (.int .i64 a1_1) := (blk_cell BK467.out 1).trans rfl
        have hcz10_2 : wr.cell? ⟨gb467, 2, none⟩ = some (.int .i64 a1_2) := (blk_cell BK467.out 2).trans rfl
        have hfz10_0 := blk_frozen BK467.out 0
        have hfz10_1 := blk_frozen BK467.out 1
        have hfz10_2 := blk_frozen BK467.out 2
        have p469 : 0 ≤ (x5_1 : Int) := of_decide_eq_true (by first | (with_reducible assumption) | assumption)
        have q469 : x5_1 < (l0.length : Int) := of_decide_eq_true (by first | (with_reducible assumption) | assumption)
        obtain ⟨ad469, e469, hx469_0, hx469_1, hx469_2⟩ := at_T46 HR0.out x5_1 p469 q469
        obtain rfl : ad468 = ad469 := (by injection e469)
        replace hx469_0 := (HB.out.cell (World.block_lt_of_cell? w _ hx469_0)).trans hx469_0
        replace hx469_1 := (HB.out.cell (World.block_lt_of_cell? w _ hx469_1)).trans hx469_1
        replace hx469_2 := (HB.out.cell (World.block_lt_of_cell? w _ hx469_2)).trans hx469_2
        replace p469 := eq_true p469
        replace q469 := eq_true q469
        have p470 : 0 ≤ (x5_1 : Int) := of_decide_eq_true (by first | (with_reducible assumption) | assumption)
        have q470 : x5_1 < (l0.length : Int) := of_decide_eq_true (by first | (with_reducible assumption) | assumption)
        obtain ⟨ad470, e470, hx470_0, hx470_1, hx470_2⟩ := at_T46 HR0.out x5_1 p470 q470
        obtain rfl : ad468 = ad470 := (by injection e470)
        replace hx470_0 := (HB.out.cell (World.block_lt_of_cell? w _ hx470_0)).trans hx470_0
        replace hx470_1 := (HB.out.cell (World.block_lt_of_cell? w _ hx470_1)).trans hx470_1
        replace hx470_2 := (HB.out.cell (World.block_lt_of_cell? w _ hx470_2)).trans hx470_2
        replace p470 := eq_true p470
        replace q470 := eq_true q470
        go_wp2
        repeat (go_quiet (fail); try go_wp2)
        go_roundg k1
        case measure => have := HK1.out; omega
        case rel => exact ⟨(wrap64 (x5_1 + 1)), (by first | rfl | (simp; done) | (simp [*]; done)), H', ⟨by have := HK1.out; omega⟩, ⟨by (with_reducible repeat (first | refine blk_drewN ?_ _ | refine blk_drew ?_ | refine blk_alloc ?_ _)); exact BK467.out⟩, ⟨by repeat (first | (with_reducible first | exact HB.out | apply below_alloc | apply pw_below_drewN | apply below_drew1 | refine below_set ?_ GE467.out) | exact HB.out)⟩⟩
      ·
       rw [if_neg c7] at H
       have c7b0 : decide (((rd_T46 l0 x5_1).f1) ≤ a1_1) = false := decide_eq_false c7
       clear c7
       have H' := Aside0.mk H
       clear H
       have p468 : 0 ≤ (x5_1 : Int) := of_decide_eq_true (by first | (with_reducible assumption) | assumption)
       have q468 : x5_1 < (l0.length : Int) := of_decide_eq_true (by first | (with_reducible assumption) | assumption)
       obtain ⟨ad468, e468, hx468_0, hx468_1, hx468_2⟩ := at_T46 HR0.out x5_1 p468 q468
       cases e468
       replace hx468_0 := (HB.out.cell (World.block_lt_of_cell? w _ hx468_0)).trans hx468_0
       replace hx468_1 := (HB.out.cell (World.block_lt_of_cell? w _ hx468_1)).trans hx468_1
       replace hx468_2 := (HB.out.cell (World.block_lt_of_cell? w _ hx468_2)).trans hx468_2
       replace p468 := eq_true p468
       replace q468 := eq_true q468
       have hcz11_0 : wr.cell? ⟨gb467, 0, none⟩ = some (.int .i64 a1_0) := (blk_cell BK467.out 0).trans rfl
       have hcz11_1 : wr.cell? ⟨gb467, 1, none⟩ = some (.int .i64 a1_1) := (blk_cell BK467.out 1).trans rfl
       have hcz11_2 : wr.cell? ⟨gb467, 2, none⟩ = some (.int .i64 a1_2) := (blk_cell BK467.out 2).trans rfl
       have hfz11_0 := blk_frozen BK467.out 0
       have hfz11_1 := blk_frozen BK467.out 1
       have hfz11_2 := blk_frozen BK467.out 2
       have p469 : 0 ≤ (x5_1 : Int) := of_decide_eq_true (by first | (with_reducible assumption) | assumption)
       have q469 : x5_1 < (l0.length : Int) := of_decide_eq_true (by first | (with_reducible assumption) | assumption)
       obtain ⟨ad469, e469, hx469_0, hx469_1, hx469_2⟩ := at_T46 HR0.out x5_1 p469 q469
       obtain rfl : ad468 = ad469 := (by injection e469)
       replace hx469_0 := (HB.out.cell (World.block_lt_of_cell? w _ hx469_0)).trans hx469_0
       replace hx469_1 := (HB.out.cell (World.block_lt_of_cell? w _ hx469_1)).trans hx469_1
       replace hx469_2 := (HB.out.cell (World.block_lt_of_cell? w _ hx469_2)).trans hx469_2
       replace p469 := eq_true p469
       replace q469 := eq_true q469
       go_wp2
       repeat (go_quiet (fail); try go_wp2)
       go_roundg k1
       case measure => have := HK1.out; omega
       case rel => exact ⟨(wrap64 (x5_1 + 1)), (by first | rfl | (simp; done) | (simp [*]; done)), H', ⟨by have := HK1.out; omega⟩, ⟨by (with_reducible repeat (first | refine blk_drewN ?_ _ | refine blk_drew ?_ | refine blk_alloc ?_ _)); exact BK467.out⟩, ⟨by repeat (first | (with_reducible first | exact HB.out | apply below_alloc | apply pw_below_drewN | apply below_drew1 | refine below_set ?_ GE467.out) | exact HB.out)⟩⟩
     ·
      rw [if_neg c6] at H
      have c6b0 : (((rd_T46 l0 x5_1).f0) == a1_0) = false := beq_eq_false_iff_ne.mpr c6
      have c6b1 : (((rd_T46 l0 x5_1).f0) != a1_0) = true := bne_iff_ne.mpr c6
      have H' := Aside0.mk H
      clear H
      have p468 : 0 ≤ (x5_1 : Int) := of_decide_eq_true (by first | (with_reducible assumption) | assumption)
      have q468 : x5_1 < (l0.length : Int) := of_decide_eq_true (by first | (with_reducible assumption) | assumption)
      obtain ⟨ad468, e468, hx468_0, hx468_1, hx468_2⟩ := at_T46 HR0.out x5_1 p468 q468
      cases e468
      replace hx468_0 := (HB.out.cell (World.block_lt_of_cell? w _ hx468_0)).trans hx468_0
      replace hx468_1 := (HB.out.cell (World.block_lt_of_cell? w _ hx468_1)).trans hx468_1
      replace hx468_2 := (HB.out.cell (World.block_lt_of_cell? w _ hx468_2)).trans hx468_2
      replace p468 := eq_true p468
      replace q468 := eq_true q468
      have hcz12_0 : wr.cell? ⟨gb467, 0, none⟩ = some (.int .i64 a1_0) := (blk_cell BK467.out 0).trans rfl
      have hcz12_1 : wr.cell? ⟨gb467, 1, none⟩ = some (.int .i64 a1_1) := (blk_cell BK467.out 1).trans rfl
      have hcz12_2 : wr.cell? ⟨gb467, 2, none⟩ = some (.int .i64 a1_2) := (blk_cell BK467.out 2).trans rfl
      have hfz12_0 := blk_frozen BK467.out 0
      have hfz12_1 := blk_frozen BK467.out 1
      have hfz12_2 := blk_frozen BK467.out 2
      go_wp2
      repeat (go_quiet (fail); try go_wp2)
      go_roundg k1
      case measure => have := HK1.out; omega
      case rel => exact ⟨(wrap64 (x5_1 + 1)), (by first | rfl | (simp; done) | (simp [*]; done)), H', ⟨by have := HK1.out; omega⟩, ⟨by (with_reducible repeat (first | refine blk_drewN ?_ _ | refine blk_drew ?_ | refine blk_alloc ?_ _)); exact BK467.out⟩, ⟨by repeat (first | (with_reducible first | exact HB.out | apply below_alloc | apply pw_below_drewN | apply below_drew1 | refine below_set ?_ GE467.out) | exact HB.out)⟩⟩
    ·
     rw [if_neg c5] at H
     exact absurd H (by simp)
   ·
    rw [if_neg c4] at H
    have c4b0 : decide (x5_1 < (l0.length : Int)) = false := decide_eq_false c4
    clear c4
    obtain rfl := Option.some.inj H
    go_wp2
    repeat (go_quiet (fail); try go_wp2)
    go_ret
    exact ⟨by first | rfl | (simp [errW_none, errW_some] <;> rfl) | (simp [*, errW_none, errW_some] <;> rfl), by repeat (first | (with_reducible first | exact HB.out | apply below_alloc | apply pw_below_drewN | apply below_drew1 | refine below_set ?_ GE467.out) | exact HB.out)⟩
end Go.Proofs.Ytjlbgopgeepiaaa.PConf
namespace Go.Proofs.Ytjlbgopgeepiaaa.PConf
open Go.RowKit Go.Proofs.YtjlbgopgeepiaaaW.PrintWords Go.Proofs.YtjlbgopgeepiaaaW.PrintLast Go.Proofs.YtjlbgopgeepiaaaW.PrintMore
attribute [local go_sem] max2_int min2_int max_two min_two max_three min_three max_four min_four plus_setCell_drewN plus_cell_same   -- for this text's walks alone
set_option linter.unusedVariables false
set_option linter.unusedSimpArgs false
mutual
def busbarref12_Groups.l0 : Nat → List (S48) → List (S46) → Int → Option (Int)
 | 0, _, _, _ => none
 | k + 1, x0, x1, x5 => if x5 < (x0.length : Int) then (if 0 ≤ x5 then (if ((rd_T48 x0 x5).f0) = 2 then (if ((rd_T48 x0 x5).f2) = 2 then (if ((rd_T48 x0 x5).f1) < 0 then (busbarref12_Groups.j1 k x0 x1 x5 true ((rd_T48 x0 x5).f0) ((rd_T48 x0 x5).f1) ((rd_T48 x0 x5).f2)) else (busbarref12_Groups.j1 k x0 x1 x5 (decide (((rd_T48 x0 x5).f1) ≥ 65536)) ((rd_T48 x0 x5).f0) ((rd_T48 x0 x5).f1) ((rd_T48 x0 x5).f2))) else (if ((rd_T48 x0 x5).f2) = 4 then (if ((rd_T48 x0 x5).f1) < 0 then (busbarref12_Groups.j1 k x0 x1 x5 true ((rd_T48 x0 x5).f0) ((rd_T48 x0 x5).f1) ((rd_T48 x0 x5).f2)) else (busbarref12_Groups.j1 k x0 x1 x5 (decide (((rd_T48 x0 x5).f1) ≥ 65536)) ((rd_T48 x0 x5).f0) ((rd_T48 x0 x5).f1) ((rd_T48 x0 x5).f2))) else (busbarref12_Groups.j1 k x0 x1 x5 true ((rd_T48 x0 x5).f0) ((rd_T48 x0 x5).f1) ((rd_T48 x0 x5).f2)))) else (if ((rd_T48 x0 x5).f0) = 3 then (if ((rd_T48 x0 x5).f2) = 2 then (if ((rd_T48 x0 x5).f1) < 0 then (busbarref12_Groups.j1 k x0 x1 x5 true ((rd_T48 x0 x5).f0) ((rd_T48 x0 x5).f1) ((rd_T48 x0 x5).f2)) else (busbarref12_Groups.j1 k x0 x1 x5 (decide (((rd_T48 x0 x5).f1) ≥ 65536)) ((rd_T48 x0 x5).f0) ((rd_T48 x0 x5).f1) ((rd_T48 x0 x5).f2))) else (if ((rd_T48 x0 x5).f2) = 4 then (if ((rd_T48 x0 x5).f1) < 0 then (busbarref12_Groups.j1 k x0 x1 x5 true ((rd_T48 x0 x5).f0) ((rd_T48 x0 x5).f1) ((rd_T48 x0 x5).f2)) else (busbarref12_Groups.j1 k x0 x1 x5 (decide (((rd_T48 x0 x5).f1) ≥ 65536)) ((rd_T48 x0 x5).f0) ((rd_T48 x0 x5).f1) ((rd_T48 x0 x5).f2))) else (busbarref12_Groups.j1 k x0 x1 x5 true ((rd_T48 x0 x5).f0) ((rd_T48 x0 x5).f1) ((rd_T48 x0 x5).f2)))) else (busbarref12_Groups.j1 k x0 x1 x5 true ((rd_T48 x0 x5).f0) ((rd_T48 x0 x5).f1) ((rd_T48 x0 x5).f2)))) else (none)) else (some 0)
def busbarref12_Groups.j1 : Nat → List (S48) → List (S46) → Int → Bool → Int → Int → Int → Option (Int)
 | 0, _, _, _, _, _, _, _ => none
 | k + 1, x0, x1, x5, x44, x473000, x473001, x473002 => if x44 = true then (some 1) else (if x473002 = 0 then (none) else (if (Int.tmod x473001 x473002) = 0 then (if x5 > 0 then (if 0 ≤ (wrap64 (x5 - 1)) then (if (wrap64 (x5 - 1)) < (x0.length : Int) then (if ((rd_T48 x0 (wrap64 (x5 - 1))).f0) > x473000 then (busbarref12_Groups.j2 k x0 x1 x5 true x473000 x473001 x473002) else (if ((rd_T48 x0 (wrap64 (x5 - 1))).f0) = x473000 then (busbarref12_Groups.j2 k x0 x1 x5 (decide ((wrap64 (((rd_T48 x0 (wrap64 (x5 - 1))).f1) + ((rd_T48 x0 (wrap64 (x5 - 1))).f2))) > x473001)) x473000 x473001 x473002) else (busbarref12_Groups.j2 k x0 x1 x5 false x473000 x473001 x473002))) else (none)) else (none)) else (busbarref12_Groups.j2 k x0 x1 x5 false x473000 x473001 x473002)) else (some 2)))
def busbarref12_Groups.j2 : Nat → List (S48) → List (S46) → Int → Bool → Int → Int → Int → Option (Int)
 | 0, _, _, _, _, _, _, _ => none
 | k + 1, x0, x1, x5, x92, x473000, x473001, x473002 => if x92 = true then (some 2) else ((busbarref12_Covers.f k x1 x473000 x473001 (wrap64 (x473001 + x473002))).bind fun t477 => (if t477 = true then (busbarref12_Groups.l0 k x0 x1 (wrap64 (x5 + 1))) else (some 5)))
end
def busbarref12_Groups.f (k : Nat) (l0 : List (S48)) (l1 : List (S46)) : Option (Int) := busbarref12_Groups.l0 k l0 l1 0
theorem busbarref12_Groups.mono_l : ∀ k, (∀ y0 y1 y2, LeO (busbarref12_Groups.l0 k y0 y1 y2) (busbarref12_Groups.l0 (k + 1) y0 y1 y2)) ∧ (∀ y0 y1 y2 y3 y4 y5 y6, LeO (busbarref12_Groups.j1 k y0 y1 y2 y3 y4 y5 y6) (busbarref12_Groups.j1 (k + 1) y0 y1 y2 y3 y4 y5 y6)) ∧ (∀ y0 y1 y2 y3 y4 y5 y6, LeO (busbarref12_Groups.j2 k y0 y1 y2 y3 y4 y5 y6) (busbarref12_Groups.j2 (k + 1) y0 y1 y2 y3 y4 y5 y6))
 | 0 => ⟨fun _ _ _ r h => by simp [busbarref12_Groups.l0] at h, fun _ _ _ _ _ _ _ r h => by simp [busbarref12_Groups.j1] at h, fun _ _ _ _ _ _ _ r h => by simp [busbarref12_Groups.j2] at h⟩
 | k + 1 => by
  obtain ⟨ih0, ih1, ih2⟩ := busbarref12_Groups.mono_l k
  refine ⟨?_, ?_, ?_⟩
  ·
   intro y0 y1 y2
   unfold busbarref12_Groups.l0
   repeat' first
   | (with_reducible exact ih0 _ _ _)
   | (with_reducible exact ih1 _ _ _ _ _ _ _)
   | (with_reducible exact ih2 _ _ _ _ _ _ _)
   | (with_reducible exact busbarref12_Covers.mono _ _ _ _ _)
   | (with_reducible exact LeO.refl _)
   | (with_reducible exact LeO.none _)
   | (with_reducible refine LeO.ite ?_ ?_)
   | (with_reducible refine LeO.bind ?_ (fun _ => ?_))
   | exact ih0 _ _ _
   | exact ih1 _ _ _ _ _ _ _
   | exact ih2 _ _ _ _ _ _ _
   | exact busbarref12_Covers.mono _ _ _ _ _
   | exact LeO.none _
   | refine LeO.ite ?_ ?_
   | refine LeO.bind ?_ (fun _ => ?_)
  ·
   intro y0 y1 y2 y3 y4 y5 y6
   unfold busbarref12_Groups.j1
   repeat' first
   | (with_reducible exact ih0 _ _ _)
   | (with_reducible exact ih1 _ _ _ _ _ _ _)
   | (with_reducible exact ih2 _ _ _ _ _ _ _)
   | (with_reducible exact busbarref12_Covers.mono _ _ _ _ _)
   | (with_reducible exact LeO.refl _)
   | (with_reducible exact LeO.none _)
   | (with_reducible refine LeO.ite ?_ ?_)
   | (with_reducible refine LeO.bind ?_ (fun _ => ?_))
   | exact ih0 _ _ _
   | exact ih1 _ _ _ _ _ _ _
   | exact ih2 _ _ _ _ _ _ _
   | exact busbarref12_Covers.mono _ _ _ _ _
   | exact LeO.none _
   | refine LeO.ite ?_ ?_
   | refine LeO.bind ?_ (fun _ => ?_)
  ·
   intro y0 y1 y2 y3 y4 y5 y6
   unfold busbarref12_Groups.j2
   repeat' first
   | (with_reducible exact ih0 _ _ _)
   | (with_reducible exact ih1 _ _ _ _ _ _ _)
   | (with_reducible exact ih2 _ _ _ _ _ _ _)
   | (with_reducible exact busbarref12_Covers.mono _ _ _ _ _)
   | (with_reducible exact LeO.refl _)
   | (with_reducible exact LeO.none _)
   | (with_reducible refine LeO.ite ?_ ?_)
   | (with_reducible refine LeO.bind ?_ (fun _ => ?_))
   | exact ih0 _ _ _
   | exact ih1 _ _ _ _ _ _ _
   | exact ih2 _ _ _ _ _ _ _
   | exact busbarref12_Covers.mono _ _ _ _ _
   | exact LeO.none _
   | refine LeO.ite ?_ ?_
   | refine LeO.bind ?_ (fun _ => ?_)
theorem busbarref12_Groups.mono : ∀ a0 a1 k, LeO (busbarref12_Groups.f k a0 a1) (busbarref12_Groups.f (k + 1) a0 a1) := by
 intro a0 a1 k
 obtain ⟨ih0, ih1, ih2⟩ := busbarref12_Groups.mono_l k
 unfold busbarref12_Groups.f
 repeat' first
   | (with_reducible exact ih0 _ _ _)
   | (with_reducible exact ih1 _ _ _ _ _ _ _)
   | (with_reducible exact ih2 _ _ _ _ _ _ _)
   | (with_reducible exact busbarref12_Covers.mono _ _ _ _ _)
   | (with_reducible exact LeO.refl _)
   | (with_reducible exact LeO.none _)
   | (with_reducible refine LeO.ite ?_ ?_)
   | (with_reducible refine LeO.bind ?_ (fun _ => ?_))
   | exact ih0 _ _ _
   | exact ih1 _ _ _ _ _ _ _
   | exact ih2 _ _ _ _ _ _ _
   | exact busbarref12_Covers.mono _ _ _ _ _
   | exact LeO.none _
   | refine LeO.ite ?_ ?_
   | refine LeO.bind ?_ (fun _ => ?_)
set_option maxHeartbeats 8000000 in
set_option maxRecDepth 100000 in
theorem busbarref12_Groups.calls (k : Nat) (A0 : Option Addr) (c0 : Nat) (l0 : List (S48)) (A1 : Option Addr) (c1 : Nat) (l1 : List (S46)) (r : Int) (w : World) (hr0 : Kd.C k48 w A0 l0.length l0) (hc0 : l0.length ≤ c0) (hr1 : Kd.C k46 w A1 l1.length l1) (hc1 : l1.length ≤ c1) (h : busbarref12_Groups.f k l0 l1 = some r) :
  Calls Try.prog 24 #[.slice A0 l0.length c0, .slice A1 l1.length c1] w fun e w' => e = .returned (.int .i64 r) ∧ Below w.heap.size w w' := by
 have hu48 := Try.underlying48
 have hu46 := Try.underlying46
 have HR0 := Aside0.mk hr0
 have HC0 := Aside0.mk hc0
 clear hr0 hc0
 have HR1 := Aside0.mk hr1
 have HC1 := Aside0.mk hc1
 clear hr1 hc1
 have HB := Aside0.mk (Below.refl w.heap.size w)
 have H : (busbarref12_Groups.l0 k l0 l1 0) = some r := h
 clear h
 have H' := Aside0.mk H
 clear H
 go_enter Try.func24, Try.ntmps24
 go_wp2
 repeat (go_quiet (fail); try go_wp2)
 go_loopg [5] k (fun kq v5 w' => ∃ (x5_1 : Int), v5 = .int .i64 x5_1 ∧ Aside0 (busbarref12_Groups.l0 kq l0 l1 x5_1 = some r) ∧ Aside0 (kq ≤ k) ∧ Aside0 (Below w.heap.size w w'))
 case atStart => exact ⟨(0), (by first | rfl | (simp; done) | (simp [*]; done)), H', ⟨Nat.le_refl _⟩, ⟨HB.out⟩⟩
 case round =>
  clear H'
  (try clear c1)
  obtain ⟨x5_1, rfl, HA, HK1, HB⟩ := hrel
  cases gk with
  | zero => exact absurd HA.out (by simp [busbarref12_Groups.l0])
  | succ k1 =>
   have H := HA.out
   clear HA
   simp only [busbarref12_Groups.l0] at H
   by_cases c3 : x5_1 < (l0.length : Int)
   ·
    rw [if_pos c3] at H
    have c3b0 : decide (x5_1 < (l0.length : Int)) = true := decide_eq_true c3
    clear c3
    by_cases c4 : 0 ≤ x5_1
    ·
     rw [if_pos c4] at H
     have c4b0 : decide (0 ≤ x5_1) = true := decide_eq_true c4
     clear c4
     have HC5 := Aside0.mk H
     clear H
     have p471 : 0 ≤ (x5_1 : Int) := of_decide_eq_true (by first | (with_reducible assumption) | assumption)
     have q471 : x5_1 < (l0.length : Int) := of_decide_eq_true (by first | (with_reducible assumption) | assumption)
     obtain ⟨ad471, e471, hx471_0, hx471_1, hx471_2⟩ := at_T48 HR0.out x5_1 p471 q471
     cases e471
     replace hx471_0 := (HB.out.cell (World.block_lt_of_cell? w _ hx471_0)).trans hx471_0
     replace hx471_1 := (HB.out.cell (World.block_lt_of_cell? w _ hx471_1)).trans hx471_1
     replace hx471_2 := (HB.out.cell (World.block_lt_of_cell? w _ hx471_2)).trans hx471_2
     replace p471 := eq_true p471
     replace q471 := eq_true q471
     go_upto_region 5 with (first | ((with_reducible refine gate_dst (N := 6) rfl ?_); refine box_event ?hg (N := 6) ?hd (cs := #[.int .i64 0, .int .i64 0, .int .i64 0]) (t := 48) ?hr ?_; (case hd => rfl); (case hg => rfl); (case hr => first | (go_simp; done) | (go_simp; rfl)); intro gb472 hg w6 hbox hb; have BK472 := Aside0.mk (hbox); have GW472 := Aside0.mk ((by rw [hg]; exact (below_size (HB.out)) : w.heap.size ≤ gb472)); have GE472 := Aside0.mk ((by rw [hg]; exact (below_size (HB.out)) : w.heap.size ≤ gb472)); replace HB := Aside0.mk (below_step (HB.out) hb); clear hb hbox hg; obtain ⟨hcz7_0, hcz7_1, hcz7_2⟩ := blkc3 BK472.out; obtain ⟨hfz7_0, hfz7_1, hfz7_2⟩ := blkf3 BK472.out))
     repeat (go_quiet (fail); go_upto_region 5 with (fail))
     (try simp only [Act.put, List.setIfInBounds_toArray, List.set_cons_zero, List.set_cons_succ])
     go_cut [44] (fun v44 wc => ∃ (kq : Nat) (x44_4 : Bool), v44 = .bool x44_4 ∧ Aside0 (busbarref12_Groups.j1 kq l0 l1 x5_1 x44_4 ((rd_T48 l0 x5_1).f0) ((rd_T48 l0 x5_1).f1) ((rd_T48 l0 x5_1).f2) = some r) ∧ Aside0 (kq ≤ k1) ∧ Aside0 (wc.heap[gb472]? = some (.cells #[.int .i64 ((rd_T48 l0 x5_1).f0), .int .i64 ((rd_T48 l0 x5_1).f1), .int .i64 ((rd_T48 l0 x5_1).f2)] 48 (0, 0))) ∧ Aside0 (Below w.heap.size w wc))
     case first =>
      have H := HC5.out
      clear HC5
      by_cases c8 : ((rd_T48 l0 x5_1).f0) = 2
      ·
       rw [if_pos c8] at H
       have c8b0 : (((rd_T48 l0 x5_1).f0) == 2) = true := beq_iff_eq.mpr c8
       have c8b1 : (((rd_T48 l0 x5_1).f0) != 2) = false := bne_eq_false_iff_eq.mpr c8
       clear c8
       (first | rw [c8b0] | (simp only [i64_w, i32_w]; rw [c8b0]) | skip)
       by_cases c9 : ((rd_T48 l0 x5_1).f2) = 2
       ·
        rw [if_pos c9] at H
        have c9b0 : (((rd_T48 l0 x5_1).f2) == 2) = true := beq_iff_eq.mpr c9
        have c9b1 : (((rd_T48 l0 x5_1).f2) != 2) = false := bne_eq_false_iff_eq.mpr c9
        clear c9
        by_cases c10 : ((rd_T48 l0 x5_1).f1) < 0
        ·
         rw [if_pos c10] at H
         have c10b0 : decide (((rd_T48 l0 x5_1).f1) < 0) = true := decide_eq_true c10
         clear c10
         have H' := Aside0.mk H
         clear H
         obtain ⟨hcz11_0, hcz11_1, hcz11_2⟩ := blkc3 BK472.out
         obtain ⟨hfz11_0, hfz11_1, hfz11_2⟩ := blkf3 BK472.out
         go_wp2
         repeat (go_quiet (fail); try go_wp2)
         go_meet
         case rel => exact ⟨_, (true), (by first | rfl | (simp; done) | (simp [*]; done)), H', ⟨by have := HK1.out; first | omega | exact Nat.le_refl _⟩, ⟨by (with_reducible repeat (first | refine blk_drewN ?_ _ | refine blk_drew ?_ | refine blk_alloc ?_ _)); refine blk_put (cs := #[.int .i64 ((rd_T48 l0 x5_1).f0), .int .i64 ((rd_T48 l0 x5_1).f1), .int .i64 0]) ?_ 2 _ rfl; (with_reducible repeat (first | refine blk_drewN ?_ _ | refine blk_drew ?_ | refine blk_alloc ?_ _)); refine blk_put (cs := #[.int .i64 ((rd_T48 l0 x5_1).f0), .int .i64 0, .int .i64 0]) ?_ 1 _ rfl; (with_reducible repeat (first | refine blk_drewN ?_ _ | refine blk_drew ?_ | refine blk_alloc ?_ _)); refine blk_put (cs := #[.int .i64 0, .int .i64 0, .int .i64 0]) ?_ 0 _ rfl; (with_reducible repeat (first | refine blk_drewN ?_ _ | refine blk_drew ?_ | refine blk_alloc ?_ _)); exact BK472.out⟩, ⟨by repeat (first | (with_reducible first | exact HB.out | apply below_alloc | apply pw_below_drewN | apply below_drew1 | refine below_set ?_ GE472.out) | exact HB.out)⟩⟩
        ·
         rw [if_neg c10] at H
         have c10b0 : decide (((rd_T48 l0 x5_1).f1) < 0) = false := decide_eq_false c10
         clear c10
         have H' := Aside0.mk H
         clear H
         obtain ⟨hcz12_0, hcz12_1, hcz12_2⟩ := blkc3 BK472.out
         obtain ⟨hfz12_0, hfz12_1, hfz12_2⟩ := blkf3 BK472.out
         go_wp2
         repeat (go_quiet (fail); try go_wp2)
         go_meet
         case rel => exact ⟨_, (decide (((rd_T48 l0 x5_1).f1) ≥ 65536)), (by first | rfl | (simp; done) | (simp [*]; done)), H', ⟨by have := HK1.out; first | omega | exact Nat.le_refl _⟩, ⟨by (with_reducible repeat (first | refine blk_drewN ?_ _ | refine blk_drew ?_ | refine blk_alloc ?_ _)); refine blk_put (cs := #[.int .i64 ((rd_T48 l0 x5_1).f0), .int .i64 ((rd_T48 l0 x5_1).f1), .int .i64 0]) ?_ 2 _ rfl; (with_reducible repeat (first | refine blk_drewN ?_ _ | refine blk_drew ?_ | refine blk_alloc ?_ _)); refine blk_put (cs := #[.int .i64 ((rd_T48 l0 x5_1).f0), .int .i64 0, .int .i64 0]) ?_ 1 _ rfl; (with_reducible repeat (first | refine blk_drewN ?_ _ | refine blk_drew ?_ | refine blk_alloc ?_ _)); refine blk_put (cs := #[.int .i64 0, .int .i64 0, .int .i64 0]) ?_ 0 _ rfl; (with_reducible repeat (first | refine blk_drewN ?_ _ | refine blk_drew ?_ | refine blk_alloc ?_ _)); exact BK472.out⟩, ⟨by repeat (first | (with_reducible first | exact HB.out | apply below_alloc | apply pw_below_drewN | apply below_drew1 | refine below_set ?_ GE472.out) | exact HB.out)⟩⟩
       ·
        rw [if_neg c9] at H
        have c9b0 : (((rd_T48 l0 x5_1).f2) == 2) = false := beq_eq_false_iff_ne.mpr c9
        have c9b1 : (((rd_T48 l0 x5_1).f2) != 2) = true := bne_iff_ne.mpr c9
        by_cases c13 : ((rd_T48 l0 x5_1).f2) = 4
        ·
         rw [if_pos c13] at H
         have c13b0 : (((rd_T48 l0 x5_1).f2) == 4) = true := beq_iff_eq.mpr c13
         have c13b1 : (((rd_T48 l0 x5_1).f2) != 4) = false := bne_eq_false_iff_eq.mpr c13
         clear c13
         by_cases c14 : ((rd_T48 l0 x5_1).f1) < 0
         ·
          rw [if_pos c14] at H
          have c14b0 : decide (((rd_T48 l0 x5_1).f1) < 0) = true := decide_eq_true c14
          clear c14
          have H' := Aside0.mk H
          clear H
          obtain ⟨hcz15_0, hcz15_1, hcz15_2⟩ := blkc3 BK472.out
          obtain ⟨hfz15_0, hfz15_1, hfz15_2⟩ := blkf3 BK472.out
          go_wp2
          repeat (go_quiet (fail); try go_wp2)
          go_meet
          case rel => exact ⟨_, (true), (by first | rfl | (simp; done) | (simp [*]; done)), H', ⟨by have := HK1.out; first | omega | exact Nat.le_refl _⟩, ⟨by (with_reducible repeat (first | refine blk_drewN ?_ _ | refine blk_drew ?_ | refine blk_alloc ?_ _)); refine blk_put (cs := #[.int .i64 ((rd_T48 l0 x5_1).f0), .int .i64 ((rd_T48 l0 x5_1).f1), .int .i64 0]) ?_ 2 _ rfl; (with_reducible repeat (first | refine blk_drewN ?_ _ | refine blk_drew ?_ | refine blk_alloc ?_ _)); refine blk_put (cs := #[.int .i64 ((rd_T48 l0 x5_1).f0), .int .i64 0, .int .i64 0]) ?_ 1 _ rfl; (with_reducible repeat (first | refine blk_drewN ?_ _ | refine blk_drew ?_ | refine blk_alloc ?_ _)); refine blk_put (cs := #[.int .i64 0, .int .i64 0, .int .i64 0]) ?_ 0 _ rfl; (with_reducible repeat (first | refine blk_drewN ?_ _ | refine blk_drew ?_ | refine blk_alloc ?_ _)); exact BK472.out⟩, ⟨by repeat (first | (with_reducible first | exact HB.out | apply below_alloc | apply pw_below_drewN | apply below_drew1 | refine below_set ?_ GE472.out) | exact HB.out)⟩⟩
         ·
          rw [if_neg c14] at H
          have c14b0 : decide (((rd_T48 l0 x5_1).f1) < 0) = false := decide_eq_false c14
          clear c14
          have H' := Aside0.mk H
          clear H
          obtain ⟨hcz16_0, hcz16_1, hcz16_2⟩ := blkc3 BK472.out
          obtain ⟨hfz16_0, hfz16_1, hfz16_2⟩ := blkf3 BK472.out
          go_wp2
          repeat (go_quiet (fail); try go_wp2)
          go_meet
          case rel => exact ⟨_, (decide (((rd_T48 l0 x5_1).f1) ≥ 65536)), (by first | rfl | (simp; done) | (simp [*]; done)), H', ⟨by have := HK1.out; first | omega | exact Nat.le_refl _⟩, ⟨by (with_reducible repeat (first | refine blk_drewN ?_ _ | refine blk_drew ?_ | refine blk_alloc ?_ _)); refine blk_put (cs := #[.int .i64 ((rd_T48 l0 x5_1).f0), .int .i64 ((rd_T48 l0 x5_1).f1), .int .i64 0]) ?_ 2 _ rfl; (with_reducible repeat (first | refine blk_drewN ?_ _ | refine blk_drew ?_ | refine blk_alloc ?_ _)); refine blk_put (cs := #[.int .i64 ((rd_T48 l0 x5_1).f0), .int .i64 0, .int .i64 0]) ?_ 1 _ rfl; (with_reducible repeat (first | refine blk_drewN ?_ _ | refine blk_drew ?_ | refine blk_alloc ?_ _)); refine blk_put (cs := #[.int .i64 0, .int .i64 0, .int .i64 0]) ?_ 0 _ rfl; (with_reducible repeat (first | refine blk_drewN ?_ _ | refine blk_drew ?_ | refine blk_alloc ?_ _)); exact BK472.out⟩, ⟨by repeat (first | (with_reducible first | exact HB.out | apply below_alloc | apply pw_below_drewN | apply below_drew1 | refine below_set ?_ GE472.out) | exact HB.out)⟩⟩
        ·
         rw [if_neg c13] at H
         have c13b0 : (((rd_T48 l0 x5_1).f2) == 4) = false := beq_eq_false_iff_ne.mpr c13
         have c13b1 : (((rd_T48 l0 x5_1).f2) != 4) = true := bne_iff_ne.mpr c13
         have H' := Aside0.mk H
         clear H
         obtain ⟨hcz17_0, hcz17_1, hcz17_2⟩ := blkc3 BK472.out
         obtain ⟨hfz17_0, hfz17_1, hfz17_2⟩ := blkf3 BK472.out
         go_wp2
         repeat (go_quiet (fail); try go_wp2)
         go_meet
         case rel => exact ⟨_, (true), (by first | rfl | (simp; done) | (simp [*]; done)), H', ⟨by have := HK1.out; first | omega | exact Nat.le_refl _⟩, ⟨by (with_reducible repeat (first | refine blk_drewN ?_ _ | refine blk_drew ?_ | refine blk_alloc ?_ _)); refine blk_put (cs := #[.int .i64 ((rd_T48 l0 x5_1).f0), .int .i64 ((rd_T48 l0 x5_1).f1), .int .i64 0]) ?_ 2 _ rfl; (with_reducible repeat (first | refine blk_drewN ?_ _ | refine blk_drew ?_ | refine blk_alloc ?_ _)); refine blk_put (cs := #[.int .i64 ((rd_T48 l0 x5_1).f0), .int .i64 0, .int .i64 0]) ?_ 1 _ rfl; (with_reducible repeat (first | refine blk_drewN ?_ _ | refine blk_drew ?_ | refine blk_alloc ?_ _)); refine blk_put (cs := #[.int .i64 0, .int .i64 0, .int .i64 0]) ?_ 0 _ rfl; (with_reducible repeat (first | refine blk_drewN ?_ _ | refine blk_drew ?_ | refine blk_alloc ?_ _)); exact BK472.out⟩, ⟨by repeat (first | (with_reducible first | exact HB.out | apply below_alloc | apply pw_below_drewN | apply below_drew1 | refine below_set ?_ GE472.out) | exact HB.out)⟩⟩
      ·
       rw [if_neg c8] at H
       have c8b0 : (((rd_T48 l0 x5_1).f0) == 2) = false := beq_eq_false_iff_ne.mpr c8
       have c8b1 : (((rd_T48 l0 x5_1).f0) != 2) = true := bne_iff_ne.mpr c8
       (first | rw [c8b0] | (simp only [i64_w, i32_w]; rw [c8b0]) | skip)
       by_cases c18 : ((rd_T48 l0 x5_1).f0) = 3
       ·
        rw [if_pos c18] at H
        have c18b0 : (((rd_T48 l0 x5_1).f0) == 3) = true := beq_iff_eq.mpr c18
        have c18b1 : (((rd_T48 l0 x5_1).f0) != 3) = false := bne_eq_false_iff_eq.mpr c18
        clear c18
        by_cases c19 : ((rd_T48 l0 x5_1).f2) = 2
        ·
         rw [if_pos c19] at H
         have c19b0 : (((rd_T48 l0 x5_1).f2) == 2) = true := beq_iff_eq.mpr c19
         have c19b1 : (((rd_T48 l0 x5_1).f2) != 2) = false := bne_eq_false_iff_eq.mpr c19
         clear c19
         by_cases c20 : ((rd_T48 l0 x5_1).f1) < 0
         ·
          rw [if_pos c20] at H
          have c20b0 : decide (((rd_T48 l0 x5_1).f1) < 0) = true := decide_eq_true c20
          clear c20
          have H' := Aside0.mk H
          clear H
          obtain ⟨hcz21_0, hcz21_1, hcz21_2⟩ := blkc3 BK472.out
          obtain ⟨hfz21_0, hfz21_1, hfz21_2⟩ := blkf3 BK472.out
          go_wp2
          repeat (go_quiet (fail); try go_wp2)
          go_meet
          case rel => exact ⟨_, (true), (by first | rfl | (simp; done) | (simp [*]; done)), H', ⟨by have := HK1.out; first | omega | exact Nat.le_refl _⟩, ⟨by (with_reducible repeat (first | refine blk_drewN ?_ _ | refine blk_drew ?_ | refine blk_alloc ?_ _)); refine blk_put (cs := #[.int .i64 ((rd_T48 l0 x5_1).f0), .int .i64 ((rd_T48 l0 x5_1).f1), .int .i64 0]) ?_ 2 _ rfl; (with_reducible repeat (first | refine blk_drewN ?_ _ | refine blk_drew ?_ | refine blk_alloc ?_ _)); refine blk_put (cs := #[.int .i64 ((rd_T48 l0 x5_1).f0), .int .i64 0, .int .i64 0]) ?_ 1 _ rfl; (with_reducible repeat (first | refine blk_drewN ?_ _ | refine blk_drew ?_ | refine blk_alloc ?_ _)); refine blk_put (cs := #[.int .i64 0, .int .i64 0, .int .i64 0]) ?_ 0 _ rfl; (with_reducible repeat (first | refine blk_drewN ?_ _ | refine blk_drew ?_ | refine blk_alloc ?_ _)); exact BK472.out⟩, ⟨by repeat (first | (with_reducible first | exact HB.out | apply below_alloc | apply pw_below_drewN | apply below_drew1 | refine below_set ?_ GE472.out) | exact HB.out)⟩⟩
         ·
          rw [if_neg c20] at H
          have c20b0 : decide (((rd_T48 l0 x5_1).f1) < 0) = false := decide_eq_false c20
          clear c20
          have H' := Aside0.mk H
          clear H
          obtain ⟨hcz22_0, hcz22_1, hcz22_2⟩ := blkc3 BK472.out
          obtain ⟨hfz22_0, hfz22_1, hfz22_2⟩ := blkf3 BK472.out
          go_wp2
          repeat (go_quiet (fail); try go_wp2)
          go_meet
          case rel => exact ⟨_, (decide (((rd_T48 l0 x5_1).f1) ≥ 65536)), (by first | rfl | (simp; done) | (simp [*]; done)), H', ⟨by have := HK1.out; first | omega | exact Nat.le_refl _⟩, ⟨by (with_reducible repeat (first | refine blk_drewN ?_ _ | refine blk_drew ?_ | refine blk_alloc ?_ _)); refine blk_put (cs := #[.int .i64 ((rd_T48 l0 x5_1).f0), .int .i64 ((rd_T48 l0 x5_1).f1), .int .i64 0]) ?_ 2 _ rfl; (with_reducible repeat (first | refine blk_drewN ?_ _ | refine blk_drew ?_ | refine blk_alloc ?_ _)); refine blk_put (cs := #[.int .i64 ((rd_T48 l0 x5_1).f0), .int .i64 0, .int .i64 0]) ?_ 1 _ rfl; (with_reducible repeat (first | refine blk_drewN ?_ _ | refine blk_drew ?_ | refine blk_alloc ?_ _)); refine blk_put (cs := #[.int .i64 0, .int .i64 0, .int .i64 0]) ?_ 0 _ rfl; (with_reducible repeat (first | refine blk_drewN ?_ _ | refine blk_drew ?_ | refine blk_alloc ?_ _)); exact BK472.out⟩, ⟨by repeat (first | (with_reducible first | exact HB.out | apply below_alloc | apply pw_below_drewN | apply below_drew1 | refine below_set ?_ GE472.out) | exact HB.out)⟩⟩
        ·
         rw [if_neg c19] at H
         have c19b0 : (((rd_T48 l0 x5_1).f2) == 2) = false := beq_eq_false_iff_ne.mpr c19
         have c19b1 : (((rd_T48 l0 x5_1).f2) != 2) = true := bne_iff_ne.mpr c19
         by_cases c23 : ((rd_T48 l0 x5_1).f2) = 4
         ·
          rw [if_pos c23] at H
          have c23b0 : (((rd_T48 l0 x5_1).f2) == 4) = true := beq_iff_eq.mpr c23
          have c23b1 : (((rd_T48 l0 x5_1).f2) != 4) = false := bne_eq_false_iff_eq.mpr c23
          clear c23
          by_cases c24 : ((rd_T48 l0 x5_1).f1) < 0
          ·
           rw [if_pos c24] at H
           have c24b0 : decide (((rd_T48 l0 x5_1).f1) < 0) = true := decide_eq_true c24
           clear c24
           have H' := Aside0.mk H
           clear H
           obtain ⟨hcz25_0, hcz25_1, hcz25_2⟩ := blkc3 BK472.out
           obtain ⟨hfz25_0, hfz25_1, hfz25_2⟩ := blkf3 BK472.out
           go_wp2
           repeat (go_quiet (fail); try go_wp2)
           go_meet
           case rel => exact ⟨_, (true), (by first | rfl | (simp; done) | (simp [*]; done)), H', ⟨by have := HK1.out; first | omega | exact Nat.le_refl _⟩, ⟨by (with_reducible repeat (first | refine blk_drewN ?_ _ | refine blk_drew ?_ | refine blk_alloc ?_ _)); refine blk_put (cs := #[.int .i64 ((rd_T48 l0 x5_1).f0), .int .i64 ((rd_T48 l0 x5_1).f1), .int .i64 0]) ?_ 2 _ rfl; (with_reducible repeat (first | refine blk_drewN ?_ _ | refine blk_drew ?_ | refine blk_alloc ?_ _)); refine blk_put (cs := #[.int .i64 ((rd_T48 l0 x5_1).f0), .int .i64 0, .int .i64 0]) ?_ 1 _ rfl; (with_reducible repeat (first | refine blk_drewN ?_ _ | refine blk_drew ?_ | refine blk_alloc ?_ _)); refine blk_put (cs := #[.int .i64 0, .int .i64 0, .int .i64 0]) ?_ 0 _ rfl; (with_reducible repeat (first | refine blk_drewN ?_ _ | refine blk_drew ?_ | refine blk_alloc ?_ _)); exact BK472.out⟩, ⟨by repeat (first | (with_reducible first | exact HB.out | apply below_alloc | apply pw_below_drewN | apply below_drew1 | refine below_set ?_ GE472.out) | exact HB.out)⟩⟩
          ·
           rw [if_neg c24] at H
           have c24b0 : decide (((rd_T48 l0 x5_1).f1) < 0) = false := decide_eq_false c24
           clear c24
           have H' := Aside0.mk H
           clear H
           obtain ⟨hcz26_0, hcz26_1, hcz26_2⟩ := blkc3 BK472.out
           obtain ⟨hfz26_0, hfz26_1, hfz26_2⟩ := blkf3 BK472.out
           go_wp2
           repeat (go_quiet (fail); try go_wp2)
           go_meet
           case rel => exact ⟨_, (decide (((rd_T48 l0 x5_1).f1) ≥ 65536)), (by first | rfl | (simp; done) | (simp [*]; done)), H', ⟨by have := HK1.out; first | omega | exact Nat.le_refl _⟩, ⟨by (with_reducible repeat (first | refine blk_drewN ?_ _ | refine blk_drew ?_ | refine blk_alloc ?_ _)); refine blk_put (cs := #[.int .i64 ((rd_T48 l0 x5_1).f0), .int .i64 ((rd_T48 l0 x5_1).f1), .int .i64 0]) ?_ 2 _ rfl; (with_reducible repeat (first | refine blk_drewN ?_ _ | refine blk_drew ?_ | refine blk_alloc ?_ _)); refine blk_put (cs := #[.int .i64 ((rd_T48 l0 x5_1).f0), .int .i64 0, .int .i64 0]) ?_ 1 _ rfl; (with_reducible repeat (first | refine blk_drewN ?_ _ | refine blk_drew ?_ | refine blk_alloc ?_ _)); refine blk_put (cs := #[.int .i64 0, .int .i64 0, .int .i64 0]) ?_ 0 _ rfl; (with_reducible repeat (first | refine blk_drewN ?_ _ | refine blk_drew ?_ | refine blk_alloc ?_ _)); exact BK472.out⟩, ⟨by repeat (first | (with_reducible first | exact HB.out | apply below_alloc | apply pw_below_drewN | apply below_drew1 | refine below_set ?_ GE472.out) | exact HB.out)⟩⟩
         ·
          rw [if_neg c23] at H
          have c23b0 : (((rd_T48 l0 x5_1).f2) == 4) = false := beq_eq_false_iff_ne.mpr c23
          have c23b1 : (((rd_T48 l0 x5_1).f2) != 4) = true := bne_iff_ne.mpr c23
          have H' := Aside0.mk H
          clear H
          obtain ⟨hcz27_0, hcz27_1, hcz27_2⟩ := blkc3 BK472.out
          obtain ⟨hfz27_0, hfz27_1, hfz27_2⟩ := blkf3 BK472.out
          go_wp2
          repeat (go_quiet (fail); try go_wp2)
          go_meet
          case rel => exact ⟨_, (true), (by first | rfl | (simp; done) | (simp [*]; done)), H', ⟨by have := HK1.out; first | omega | exact Nat.le_refl _⟩, ⟨by (with_reducible repeat (first | refine blk_drewN ?_ _ | refine blk_drew ?_ | refine blk_alloc ?_ _)); refine blk_put (cs := #[.int .i64 ((rd_T48 l0 x5_1).f0), .int .i64 ((rd_T48 l0 x5_1).f1), .int .i64 0]) ?_ 2 _ rfl; (with_reducible repeat (first | refine blk_drewN ?_ _ | refine blk_drew ?_ | refine blk_alloc ?_ _)); refine blk_put (cs := #[.int .i64 ((rd_T48 l0 x5_1).f0), .int .i64 0, .int .i64 0]) ?_ 1 _ rfl; (with_reducible repeat (first | refine blk_drewN ?_ _ | refine blk_drew ?_ | refine blk_alloc ?_ _)); refine blk_put (cs := #[.int .i64 0, .int .i64 0, .int .i64 0]) ?_ 0 _ rfl; (with_reducible repeat (first | refine blk_drewN ?_ _ | refine blk_drew ?_ | refine blk_alloc ?_ _)); exact BK472.out⟩, ⟨by repeat (first | (with_reducible first | exact HB.out | apply below_alloc | apply pw_below_drewN | apply below_drew1 | refine below_set ?_ GE472.out) | exact HB.out)⟩⟩
       ·
        rw [if_neg c18] at H
        have c18b0 : (((rd_T48 l0 x5_1).f0) == 3) = false := beq_eq_false_iff_ne.mpr c18
        have c18b1 : (((rd_T48 l0 x5_1).f0) != 3) = true := bne_iff_ne.mpr c18
        have H' := Aside0.mk H
        clear H
        obtain ⟨hcz28_0, hcz28_1, hcz28_2⟩ := blkc3 BK472.out
        obtain ⟨hfz28_0, hfz28_1, hfz28_2⟩ := blkf3 BK472.out
        go_wp2
        repeat (go_quiet (fail); try go_wp2)
        go_meet
        case rel => exact ⟨_, (true), (by first | rfl | (simp; done) | (simp [*]; done)), H', ⟨by have := HK1.out; first | omega | exact Nat.le_refl _⟩, ⟨by (with_reducible repeat (first | refine blk_drewN ?_ _ | refine blk_drew ?_ | refine blk_alloc ?_ _)); refine blk_put (cs := #[.int .i64 ((rd_T48 l0 x5_1).f0), .int .i64 ((rd_T48 l0 x5_1).f1), .int .i64 0]) ?_ 2 _ rfl; (with_reducible repeat (first | refine blk_drewN ?_ _ | refine blk_drew ?_ | refine blk_alloc ?_ _)); refine blk_put (cs := #[.int .i64 ((rd_T48 l0 x5_1).f0), .int .i64 0, .int .i64 0]) ?_ 1 _ rfl; (with_reducible repeat (first | refine blk_drewN ?_ _ | refine blk_drew ?_ | refine blk_alloc ?_ _)); refine blk_put (cs := #[.int .i64 0, .int .i64 0, .int .i64 0]) ?_ 0 _ rfl; (with_reducible repeat (first | refine blk_drewN ?_ _ | refine blk_drew ?_ | refine blk_alloc ?_ _)); exact BK472.out⟩, ⟨by repeat (first | (with_reducible first | exact HB.out | apply below_alloc | apply pw_below_drewN | apply below_drew1 | refine below_set ?_ GE472.out) | exact HB.out)⟩⟩
     case rest =>
      clear HC5
      (try clear c3b0); (try clear c4b0); (try clear hcz7_0); (try clear hcz7_1); (try clear hcz7_2); (try clear hfz7_0); (try clear hfz7_1); (try clear hfz7_2); (try clear hx471_0); (try clear hx471_1); (try clear hx471_2); (try clear p471); (try clear q471)
      obtain ⟨kq, x44_4, rfl, HA, HJ4, BK472, HB⟩ := hcut
      cases kq with
      | zero => exact absurd HA.out (by simp [busbarref12_Groups.j1])
      | succ kj4 =>
       have H := HA.out
       clear HA
       simp only [busbarref12_Groups.j1] at H
       by_cases c29 : x44_4 = true
       ·
        subst c29
        have H1 : (some 1) = some r := by rw [if_pos rfl] at H; exact H
        clear H
        have H := H1
        clear H1
        obtain rfl := Option.some.inj H
        go_wp2
        repeat (go_quiet (fail); try go_wp2)
        go_ret
        exact ⟨by first | rfl | (simp [errW_none, errW_some] <;> rfl) | (simp [*, errW_none, errW_some] <;> rfl), HB.out⟩
       ·
        replace c29 := Bool.eq_false_iff.mpr c29
        subst c29
        have H1 : (if ((rd_T48 l0 x5_1).f2) = 0 then (none) else (if (Int.tmod ((rd_T48 l0 x5_1).f1) ((rd_T48 l0 x5_1).f2)) = 0 then (if x5_1 > 0 then (if 0 ≤ (wrap64 (x5_1 - 1)) then (if (wrap64 (x5_1 - 1)) < (l0.length : Int) then (if ((rd_T48 l0 (wrap64 (x5_1 - 1))).f0) > ((rd_T48 l0 x5_1).f0) then (busbarref12_Groups.j2 kj4 l0 l1 x5_1 true ((rd_T48 l0 x5_1).f0) ((rd_T48 l0 x5_1).f1) ((rd_T48 l0 x5_1).f2)) else (if ((rd_T48 l0 (wrap64 (x5_1 - 1))).f0) = ((rd_T48 l0 x5_1).f0) then (busbarref12_Groups.j2 kj4 l0 l1 x5_1 (decide ((wrap64 (((rd_T48 l0 (wrap64 (x5_1 - 1))).f1) + ((rd_T48 l0 (wrap64 (x5_1 - 1))).f2))) > ((rd_T48 l0 x5_1).f1))) ((rd_T48 l0 x5_1).f0) ((rd_T48 l0 x5_1).f1) ((rd_T48 l0 x5_1).f2)) else (busbarref12_Groups.j2 kj4 l0 l1 x5_1 false ((rd_T48 l0 x5_1).f0) ((rd_T48 l0 x5_1).f1) ((rd_T48 l0 x5_1).f2)))) else (none)) else (none)) else (busbarref12_Groups.j2 kj4 l0 l1 x5_1 false ((rd_T48 l0 x5_1).f0) ((rd_T48 l0 x5_1).f1) ((rd_T48 l0 x5_1).f2))) else (some 2))) = some r := by rw [if_neg (show ¬ (false = true) by decide)] at H; exact H
        clear H
        have H := H1
        clear H1
        by_cases c30 : ((rd_T48 l0 x5_1).f2) = 0
        ·
         rw [if_pos c30] at H
         exact absurd H (by simp)
        ·
         rw [if_neg c30] at H
         have c30b0 : (((rd_T48 l0 x5_1).f2) == 0) = false := beq_eq_false_iff_ne.mpr c30
         have c30b1 : (((rd_T48 l0 x5_1).f2) != 0) = true := bne_iff_ne.mpr c30
         by_cases c31 : (Int.tmod ((rd_T48 l0 x5_1).f1) ((rd_T48 l0 x5_1).f2)) = 0
         ·
          rw [if_pos c31] at H
          have c31b0 : ((Int.tmod ((rd_T48 l0 x5_1).f1) ((rd_T48 l0 x5_1).f2)) == 0) = true := beq_iff_eq.mpr c31
          have c31b1 : ((Int.tmod ((rd_T48 l0 x5_1).f1) ((rd_T48 l0 x5_1).f2)) != 0) = false := bne_eq_false_iff_eq.mpr c31
          clear c31
          have HC32 := Aside0.mk H
          clear H
          obtain ⟨hcz33_0, hcz33_1, hcz33_2⟩ := blkc3 BK472.out
          obtain ⟨hfz33_0, hfz33_1, hfz33_2⟩ := blkf3 BK472.out
          go_upto_region 9 with (fail)
          repeat (go_quiet (fail); go_upto_region 9 with (fail))
          go_cut [92] (fun v92 wc => ∃ (kq : Nat) (x92_31 : Bool), v92 = .bool x92_31 ∧ Aside0 (busbarref12_Groups.j2 kq l0 l1 x5_1 x92_31 ((rd_T48 l0 x5_1).f0) ((rd_T48 l0 x5_1).f1) ((rd_T48 l0 x5_1).f2) = some r) ∧ Aside0 (kq ≤ kj4) ∧ Aside0 (wc.heap[gb472]? = some (.cells #[.int .i64 ((rd_T48 l0 x5_1).f0), .int .i64 ((rd_T48 l0 x5_1).f1), .int .i64 ((rd_T48 l0 x5_1).f2)] 48 (0, 0))) ∧ Aside0 (Below w.heap.size w wc))
          case first =>
           have H := HC32.out
           clear HC32
           by_cases c34 : x5_1 > 0
           ·
            rw [if_pos c34] at H
            have c34b0 : decide (0 < x5_1) = true := decide_eq_true c34
            clear c34
            (first | rw [c34b0] | (simp only [i64_w, i32_w]; rw [c34b0]) | skip)
            obtain ⟨ji35, hji35⟩ : ∃ j_ : Int, (wrap64 (x5_1 - 1)) = j_ := ⟨_, rfl⟩
            replace H : (if 0 ≤ (ji35) then (if (ji35) < (l0.length : Int) then (if ((rd_T48 l0 (ji35)).f0) > ((rd_T48 l0 x5_1).f0) then (busbarref12_Groups.j2 kj4 l0 l1 x5_1 true ((rd_T48 l0 x5_1).f0) ((rd_T48 l0 x5_1).f1) ((rd_T48 l0 x5_1).f2)) else (if ((rd_T48 l0 (ji35)).f0) = ((rd_T48 l0 x5_1).f0) then (busbarref12_Groups.j2 kj4 l0 l1 x5_1 (decide ((wrap64 (((rd_T48 l0 (ji35)).f1) + ((rd_T48 l0 (ji35)).f2))) > ((rd_T48 l0 x5_1).f1))) ((rd_T48 l0 x5_1).f0) ((rd_T48 l0 x5_1).f1) ((rd_T48 l0 x5_1).f2)) else (busbarref12_Groups.j2 kj4 l0 l1 x5_1 false ((rd_T48 l0 x5_1).f0) ((rd_T48 l0 x5_1).f1) ((rd_T48 l0 x5_1).f2)))) else (none)) else (none)) = some r := by first | (rw [hji35] at H; exact H) | (simp only [hji35] at H ⊢; exact H)
            have hji35w : (IntKind.i64.wrap (x5_1 - 1)) = ji35 := (i64_w _).trans hji35
            by_cases c36 : 0 ≤ (ji35)
            ·
             rw [if_pos c36] at H
             have c36b0 : decide (0 ≤ (ji35)) = true := decide_eq_true c36
             clear c36
             by_cases c37 : (ji35) < (l0.length : Int)
             ·
              rw [if_pos c37] at H
              have c37b0 : decide ((ji35) < (l0.length : Int)) = true := decide_eq_true c37
              clear c37
              by_cases c38 : ((rd_T48 l0 (ji35)).f0) > ((rd_T48 l0 x5_1).f0)
              ·
               rw [if_pos c38] at H
               have c38b0 : decide (((rd_T48 l0 x5_1).f0) < ((rd_T48 l0 (ji35)).f0)) = true := decide_eq_true c38
               clear c38
               have H' := Aside0.mk H
               clear H
               have p473 : 0 ≤ ((ji35) : Int) := of_decide_eq_true (by first | (with_reducible assumption) | assumption)
               have q473 : (ji35) < (l0.length : Int) := of_decide_eq_true (by first | (with_reducible assumption) | assumption)
               obtain ⟨ad473, e473, hx473_0, hx473_1, hx473_2⟩ := at_T48 HR0.out (ji35) p473 q473
               obtain rfl : ad471 = ad473 := (by injection e473)
               replace hx473_0 := (HB.out.cell (World.block_lt_of_cell? w _ hx473_0)).trans hx473_0
               replace hx473_1 := (HB.out.cell (World.block_lt_of_cell? w _ hx473_1)).trans hx473_1
               replace hx473_2 := (HB.out.cell (World.block_lt_of_cell? w _ hx473_2)).trans hx473_2
               replace p473 := eq_true p473
               replace q473 := eq_true q473
               obtain ⟨hcz39_0, hcz39_1, hcz39_2⟩ := blkc3 BK472.out
               obtain ⟨hfz39_0, hfz39_1, hfz39_2⟩ := blkf3 BK472.out
               go_wp2
               repeat (go_quiet (fail); try go_wp2)
               go_meet
               case rel => exact ⟨_, (true), (by first | rfl | (simp; done) | (simp [*]; done)), H', ⟨by have := HK1.out; have := HJ4.out; first | omega | exact Nat.le_refl _⟩, ⟨by (with_reducible repeat (first | refine blk_drewN ?_ _ | refine blk_drew ?_ | refine blk_alloc ?_ _)); exact BK472.out⟩, ⟨by repeat (first | (with_reducible first | exact HB.out | apply below_alloc | apply pw_below_drewN | apply below_drew1 | refine below_set ?_ GE472.out) | exact HB.out)⟩⟩
              ·
               rw [if_neg c38] at H
               have c38b0 : decide (((rd_T48 l0 x5_1).f0) < ((rd_T48 l0 (ji35)).f0)) = false := decide_eq_false c38
               clear c38
               by_cases c40 : ((rd_T48 l0 (ji35)).f0) = ((rd_T48 l0 x5_1).f0)
               ·
                rw [if_pos c40] at H
                have c40b0 : (((rd_T48 l0 (ji35)).f0) == ((rd_T48 l0 x5_1).f0)) = true := beq_iff_eq.mpr c40
                have c40b1 : (((rd_T48 l0 (ji35)).f0) != ((rd_T48 l0 x5_1).f0)) = false := bne_eq_false_iff_eq.mpr c40
                clear c40
                have H' := Aside0.mk H
                clear H
                have p473 : 0 ≤ ((ji35) : Int) := of_decide_eq_true (by first | (with_reducible assumption) | assumption)
                have q473 : (ji35) < (l0.length : Int) := of_decide_eq_true (by first | (with_reducible assumption) | assumption)
                obtain ⟨ad473, e473, hx473_0, hx473_1, hx473_2⟩ := at_T48 HR0.out (ji35) p473 q473
                obtain rfl : ad471 = ad473 := (by injection e473)
                replace hx473_0 := (HB.out.cell (World.block_lt_of_cell? w _ hx473_0)).trans hx473_0
                replace hx473_1 := (HB.out.cell (World.block_lt_of_cell? w _ hx473_1)).trans hx473_1
                replace hx473_2 := (HB.out.cell (World.block_lt_of_cell? w _ hx473_2)).trans hx473_2
                replace p473 := eq_true p473
                replace q473 := eq_true q473
                obtain ⟨hcz41_0, hcz41_1, hcz41_2⟩ := blkc3 BK472.out
                obtain ⟨hfz41_0, hfz41_1, hfz41_2⟩ := blkf3 BK472.out
                have p474 : 0 ≤ ((ji35) : Int) := of_decide_eq_true (by first | (with_reducible assumption) | assumption)
                have q474 : (ji35) < (l0.length : Int) := of_decide_eq_true (by first | (with_reducible assumption) | assumption)
                obtain ⟨ad474, e474, hx474_0, hx474_1, hx474_2⟩ := at_T48 HR0.out (ji35) p474 q474
                obtain rfl : ad471 = ad474 := (by injection e474)
                replace hx474_0 := (HB.out.cell (World.block_lt_of_cell? w _ hx474_0)).trans hx474_0
                replace hx474_1 := (HB.out.cell (World.block_lt_of_cell? w _ hx474_1)).trans hx474_1
                replace hx474_2 := (HB.out.cell (World.block_lt_of_cell? w _ hx474_2)).trans hx474_2
                replace p474 := eq_true p474
                replace q474 := eq_true q474
                have p475 : 0 ≤ ((ji35) : Int) := of_decide_eq_true (by first | (with_reducible assumption) | assumption)
                have q475 : (ji35) < (l0.length : Int) := of_decide_eq_true (by first | (with_reducible assumption) | assumption)
                obtain ⟨ad475, e475, hx475_0, hx475_1, hx475_2⟩ := at_T48 HR0.out (ji35) p475 q475
                obtain rfl : ad471 = ad475 := (by injection e475)
                replace hx475_0 := (HB.out.cell (World.block_lt_of_cell? w _ hx475_0)).trans hx475_0
                replace hx475_1 := (HB.out.cell (World.block_lt_of_cell? w _ hx475_1)).trans hx475_1
                replace hx475_2 := (HB.out.cell (World.block_lt_of_cell? w _ hx475_2)).trans hx475_2
                replace p475 := eq_true p475
                replace q475 := eq_true q475
                have p476 : 0 ≤ ((ji35) : Int) := of_decide_eq_true (by first | (with_reducible assumption) | assumption)
                have q476 : (ji35) < (l0.length : Int) := of_decide_eq_true (by first | (with_reducible assumption) | assumption)
                obtain ⟨ad476, e476, hx476_0, hx476_1, hx476_2⟩ := at_T48 HR0.out (ji35) p476 q476
                obtain rfl : ad471 = ad476 := (by injection e476)
                replace hx476_0 := (HB.out.cell (World.block_lt_of_cell? w _ hx476_0)).trans hx476_0
                replace hx476_1 := (HB.out.cell (World.block_lt_of_cell? w _ hx476_1)).trans hx476_1
                replace hx476_2 := (HB.out.cell (World.block_lt_of_cell? w _ hx476_2)).trans hx476_2
                replace p476 := eq_true p476
                replace q476 := eq_true q476
                go_wp2
                repeat (go_quiet (fail); try go_wp2)
                go_meet
                case rel => exact ⟨_, (decide ((wrap64 (((rd_T48 l0 (ji35)).f1) + ((rd_T48 l0 (ji35)).f2))) > ((rd_T48 l0 x5_1).f1))), (by first | rfl | (simp; done) | (simp only [← hji35] <;> (first | rfl | simp)) | (simp [*]; done)), H', ⟨by have := HK1.out; have := HJ4.out; first | omega | exact Nat.le_refl _⟩, ⟨by (with_reducible repeat (first | refine blk_drewN ?_ _ | refine blk_drew ?_ | refine blk_alloc ?_ _)); exact BK472.out⟩, ⟨by repeat (first | (with_reducible first | exact HB.out | apply below_alloc | apply pw_below_drewN | apply below_drew1 | refine below_set ?_ GE472.out) | exact HB.out)⟩⟩
               ·
                rw [if_neg c40] at H
                have c40b0 : (((rd_T48 l0 (ji35)).f0) == ((rd_T48 l0 x5_1).f0)) = false := beq_eq_false_iff_ne.mpr c40
                have c40b1 : (((rd_T48 l0 (ji35)).f0) != ((rd_T48 l0 x5_1).f0)) = true := bne_iff_ne.mpr c40
                have H' := Aside0.mk H
                clear H
                have p473 : 0 ≤ ((ji35) : Int) := of_decide_eq_true (by first | (with_reducible assumption) | assumption)
                have q473 : (ji35) < (l0.length : Int) := of_decide_eq_true (by first | (with_reducible assumption) | assumption)
                obtain ⟨ad473, e473, hx473_0, hx473_1, hx473_2⟩ := at_T48 HR0.out (ji35) p473 q473
                obtain rfl : ad471 = ad473 := (by injection e473)
                replace hx473_0 := (HB.out.cell (World.block_lt_of_cell? w _ hx473_0)).trans hx473_0
                replace hx473_1 := (HB.out.cell (World.block_lt_of_cell? w _ hx473_1)).trans hx473_1
                replace hx473_2 := (HB.out.cell (World.block_lt_of_cell? w _ hx473_2)).trans hx473_2
                replace p473 := eq_true p473
                replace q473 := eq_true q473
                obtain ⟨hcz42_0, hcz42_1, hcz42_2⟩ := blkc3 BK472.out
                obtain ⟨hfz42_0, hfz42_1, hfz42_2⟩ := blkf3 BK472.out
                have p474 : 0 ≤ ((ji35) : Int) := of_decide_eq_true (by first | (with_reducible assumption) | assumption)
                have q474 : (ji35) < (l0.length : Int) := of_decide_eq_true (by first | (with_reducible assumption) | assumption)
                obtain ⟨ad474, e474, hx474_0, hx474_1, hx474_2⟩ := at_T48 HR0.out (ji35) p474 q474
                obtain rfl : ad471 = ad474 := (by injection e474)
                replace hx474_0 := (HB.out.cell (World.block_lt_of_cell? w _ hx474_0)).trans hx474_0
                replace hx474_1 := (HB.out.cell (World.block_lt_of_cell? w _ hx474_1)).trans hx474_1
                replace hx474_2 := (HB.out.cell (World.block_lt_of_cell? w _ hx474_2)).trans hx474_2
                replace p474 := eq_true p474
                replace q474 := eq_true q474
                go_wp2
                repeat (go_quiet (fail); try go_wp2)
                go_meet
                case rel => exact ⟨_, (false), (by first | rfl | (simp; done) | (simp [*]; done)), H', ⟨by have := HK1.out; have := HJ4.out; first | omega | exact Nat.le_refl _⟩, ⟨by (with_reducible repeat (first | refine blk_drewN ?_ _ | refine blk_drew ?_ | refine blk_alloc ?_ _)); exact BK472.out⟩, ⟨by repeat (first | (with_reducible first | exact HB.out | apply below_alloc | apply pw_below_drewN | apply below_drew1 | refine below_set ?_ GE472.out) | exact HB.out)⟩⟩
             ·
              rw [if_neg c37] at H
              exact absurd H (by simp)
            ·
             rw [if_neg c36] at H
             exact absurd H (by simp)
           ·
            rw [if_neg c34] at H
            have c34b0 : decide (0 < x5_1) = false := decide_eq_false c34
            clear c34
            (first | rw [c34b0] | (simp only [i64_w, i32_w]; rw [c34b0]) | skip)
            have H' := Aside0.mk H
            clear H
            go_wp2
            repeat (go_quiet (fail); try go_wp2)
            go_meet
            case rel => exact ⟨_, (false), (by first | rfl | (simp; done) | (simp [*]; done)), H', ⟨by have := HK1.out; have := HJ4.out; first | omega | exact Nat.le_refl _⟩, ⟨by (with_reducible repeat (first | refine blk_drewN ?_ _ | refine blk_drew ?_ | refine blk_alloc ?_ _)); exact BK472.out⟩, ⟨by repeat (first | (with_reducible first | exact HB.out | apply below_alloc | apply pw_below_drewN | apply below_drew1 | refine below_set ?_ GE472.out) | exact HB.out)⟩⟩
          case rest =>
           clear HC32
           (try clear c30); (try clear c30b0); (try clear c30b1); (try clear c31b0); (try clear c31b1); (try clear hcz33_0); (try clear hcz33_1); (try clear hcz33_2); (try clear hfz33_0); (try clear hfz33_1); (try clear hfz33_2); (try clear q471)
           obtain ⟨kq, x92_31, rfl, HA, HJ31, BK472, HB⟩ := hcut
           cases kq with
           | zero => exact absurd HA.out (by simp [busbarref12_Groups.j2])
           | succ kj31 =>
            have H := HA.out
            clear HA
            simp only [busbarref12_Groups.j2] at H
            by_cases c43 : x92_31 = true
            ·
             subst c43
             have H1 : (some 2) = some r := by rw [if_pos rfl] at H; exact H
             clear H
             have H := H1
             clear H1
             obtain rfl := Option.some.inj H
             go_wp2
             repeat (go_quiet (fail); try go_wp2)
             go_ret
             exact ⟨by first | rfl | (simp [errW_none, errW_some] <;> rfl) | (simp [*, errW_none, errW_some] <;> rfl), HB.out⟩
            ·
             replace c43 := Bool.eq_false_iff.mpr c43
             subst c43
             have H1 : ((busbarref12_Covers.f kj31 l1 ((rd_T48 l0 x5_1).f0) ((rd_T48 l0 x5_1).f1) (wrap64 (((rd_T48 l0 x5_1).f1) + ((rd_T48 l0 x5_1).f2)))).bind fun t477 => (if t477 = true then (busbarref12_Groups.l0 kj31 l0 l1 (wrap64 (x5_1 + 1))) else (some 5))) = some r := by rw [if_neg (show ¬ (false = true) by decide)] at H; exact H
             clear H
             have H := H1
             clear H1
             replace H := Option.bind_eq_some_iff.mp H
             obtain ⟨t477, A440, H⟩ := H
             have A44 := Aside0.mk A440
             clear A440
             by_cases c45 : t477 = true
             ·
              subst c45
              have H1 : (busbarref12_Groups.l0 kj31 l0 l1 (wrap64 (x5_1 + 1))) = some r := by rw [if_pos rfl] at H; exact H
              clear H
              have H := H1
              clear H1
              have H' := Aside0.mk H
              clear H
              obtain ⟨hcz46_0, hcz46_1, hcz46_2⟩ := blkc3 BK472.out
              obtain ⟨hfz46_0, hfz46_1, hfz46_2⟩ := blkf3 BK472.out
              go_wp2_with (first | (go_at_call 46; (with_reducible refine (busbarref12_Covers.calls kj31 _ _ l1 ((rd_T48 l0 x5_1).f0) ((rd_T48 l0 x5_1).f1) (wrap64 (((rd_T48 l0 x5_1).f1) + ((rd_T48 l0 x5_1).f2))) true _ ?side1 ?side2 A44.out).mono ?_); (case side1 => repeat (first | exact (Kd.C_below HR1.out HB.out) | (with_reducible refine Kd.C_alloc ?_ _) | (with_reducible refine Kd.C_drewN ?_ _) | (with_reducible refine Kd.C_drew ?_))); (case side2 => exact HC1.out); rintro e w47 ⟨rfl, hb⟩; replace BK472 := Aside0.mk (blk_below BK472.out hb); replace HB := Aside0.mk (below_step (HB.out) hb); (try clear hb); (try clear hi)))
              repeat (go_quiet (fail); try go_wp2_with (fail))
              go_roundg kj31
              case measure => have := HK1.out; have := HJ4.out; have := HJ31.out; omega
              case rel => exact ⟨(wrap64 (x5_1 + 1)), (by first | rfl | (simp; done) | (simp [*]; done)), H', ⟨by have := HK1.out; have := HJ4.out; have := HJ31.out; omega⟩, ⟨HB.out⟩⟩
             ·
              replace c45 := Bool.eq_false_iff.mpr c45
              subst c45
              have H1 : (some 5) = some r := by rw [if_neg (show ¬ (false = true) by decide)] at H; exact H
              clear H
              have H := H1
              clear H1
              obtain rfl := Option.some.inj H
              obtain ⟨hcz48_0, hcz48_1, hcz48_2⟩ := blkc3 BK472.out
              obtain ⟨hfz48_0, hfz48_1, hfz48_2⟩ := blkf3 BK472.out
              go_wp2_with (first | (go_at_call 46; (with_reducible refine (busbarref12_Covers.calls kj31 _ _ l1 ((rd_T48 l0 x5_1).f0) ((rd_T48 l0 x5_1).f1) (wrap64 (((rd_T48 l0 x5_1).f1) + ((rd_T48 l0 x5_1).f2))) false _ ?side1 ?side2 A44.out).mono ?_); (case side1 => repeat (first | exact (Kd.C_below HR1.out HB.out) | (with_reducible refine Kd.C_alloc ?_ _) | (with_reducible refine Kd.C_drewN ?_ _) | (with_reducible refine Kd.C_drew ?_))); (case side2 => exact HC1.out); rintro e w49 ⟨rfl, hb⟩; replace BK472 := Aside0.mk (blk_below BK472.out hb); replace HB := Aside0.mk (below_step (HB.out) hb); (try clear hb); (try clear hi)))
              repeat (go_quiet (fail); try go_wp2_with (fail))
              go_ret
              exact ⟨by first | rfl | (simp [errW_none, errW_some] <;> rfl) | (simp [*, errW_none, errW_some] <;> rfl), HB.out⟩
         ·
          rw [if_neg c31] at H
          have c31b0 : ((Int.tmod ((rd_T48 l0 x5_1).f1) ((rd_T48 l0 x5_1).f2)) == 0) = false := beq_eq_false_iff_ne.mpr c31
          have c31b1 : ((Int.tmod ((rd_T48 l0 x5_1).f1) ((rd_T48 l0 x5_1).f2)) != 0) = true := bne_iff_ne.mpr c31
          obtain rfl := Option.some.inj H
          obtain ⟨hcz50_0, hcz50_1, hcz50_2⟩ := blkc3 BK472.out
          obtain ⟨hfz50_0, hfz50_1, hfz50_2⟩ := blkf3 BK472.out
          go_wp2
          repeat (go_quiet (fail); try go_wp2)
          go_ret
          exact ⟨by first | rfl | (simp [errW_none, errW_some] <;> rfl) | (simp [*, errW_none, errW_some] <;> rfl), HB.out⟩
    ·
     rw [if_neg c4] at H
     exact absurd H (by simp)
   ·
    rw [if_neg c3] at H
    have c3b0 : decide (x5_1 < (l0.length : Int)) = false := decide_eq_false c3
    clear c3
    obtain rfl := Option.some.inj H
    go_wp2
    repeat (go_quiet (fail); try go_wp2)
    go_ret
    exact ⟨by first | rfl | (simp [errW_none, errW_some] <;> rfl) | (simp [*, errW_none, errW_some] <;> rfl), HB.out⟩
end Go.Proofs.Ytjlbgopgeepiaaa.PConf
namespace Go.Proofs.Ytjlbgopgeepiaaa.PConf
open Go.RowKit Go.Proofs.YtjlbgopgeepiaaaW.PrintWords Go.Proofs.YtjlbgopgeepiaaaW.PrintLast Go.Proofs.YtjlbgopgeepiaaaW.PrintMore
attribute [local go_sem] max2_int min2_int max_two min_two max_three min_three max_four min_four plus_setCell_drewN plus_cell_same   -- for this text's walks alone
set_option linter.unusedVariables false
set_option linter.unusedSimpArgs false
def busbarref5_byteful.f (a0 : Int) : Option (Bool) := if a0 ≥ 0 then (some (decide (a0 ≤ 255))) else (some false)
set_option maxHeartbeats 8000000 in
set_option maxRecDepth 100000 in
theorem busbarref5_byteful.calls (a0 : Int) (r : Bool) (w : World) (h : busbarref5_byteful.f a0 = some r) :
  Calls Try.prog 47 #[.int .i64 a0] w fun e w' => e = .returned (.bool r) ∧ Drawn0 w w' := by
 have H : (if a0 ≥ 0 then (some (decide (a0 ≤ 255))) else (some false)) = some r := h
 clear h
 by_cases c2 : a0 ≥ 0
 ·
  rw [if_pos c2] at H
  have c2b0 : decide (0 ≤ a0) = true := decide_eq_true c2
  clear c2
  obtain rfl := Option.some.inj H
  go_enter Try.func47, Try.ntmps47
  go_wp2
  go_ret
  exact ⟨by first | rfl | (simp; done) | (simp [*]; done), by repeat (first | exact Drawn0.refl _ | apply Drawn0.step)⟩
 ·
  rw [if_neg c2] at H
  have c2b0 : decide (0 ≤ a0) = false := decide_eq_false c2
  clear c2
  obtain rfl := Option.some.inj H
  go_enter Try.func47, Try.ntmps47
  go_wp2
  go_ret
  exact ⟨by first | rfl | (simp; done) | (simp [*]; done), by repeat (first | exact Drawn0.refl _ | apply Drawn0.step)⟩
end Go.Proofs.Ytjlbgopgeepiaaa.PConf
namespace Go.Proofs.Ytjlbgopgeepiaaa.PConf
open Go.RowKit Go.Proofs.YtjlbgopgeepiaaaW.PrintWords Go.Proofs.YtjlbgopgeepiaaaW.PrintLast Go.Proofs.YtjlbgopgeepiaaaW.PrintMore
attribute [local go_sem] max2_int min2_int max_two min_two max_three min_three max_four min_four plus_setCell_drewN plus_cell_same   -- for this text's walks alone
set_option linter.unusedVariables false
set_option linter.unusedSimpArgs false
mutual
def busbarref5_Objects.l0 : Nat → List (S50) → Int → Option (Int)
 | 0, _, _ => none
 | k + 1, x0, x3 => if x3 < (x0.length : Int) then (if 0 ≤ x3 then ((busbarref5_byteful.f ((rd_T50 x0 x3).f0)).bind fun t479 => (if t479 = true then (if x3 > 0 then (if 0 ≤ (wrap64 (x3 - 1)) then (if (wrap64 (x3 - 1)) < (x0.length : Int) then (if ((rd_T50 x0 (wrap64 (x3 - 1))).f0) ≥ ((rd_T50 x0 x3).f0) then (some 1) else (busbarref5_Objects.l0 k x0 (wrap64 (x3 + 1)))) else (none)) else (none)) else (busbarref5_Objects.l0 k x0 (wrap64 (x3 + 1)))) else (some 1))) else (none)) else (busbarref5_Objects.l1 k x0 0)
def busbarref5_Objects.l1 : Nat → List (S50) → Int → Option (Int)
 | 0, _, _ => none
 | k + 1, x0, x4 => if x4 < (x0.length : Int) then (if 0 ≤ x4 then (if (((rd_T50 x0 x4).f1).size : Int) > 244 then (some 4) else (busbarref5_Objects.l1 k x0 (wrap64 (x4 + 1)))) else (none)) else (busbarref5_Objects.l2 k x0 0)
def busbarref5_Objects.l2 : Nat → List (S50) → Int → Option (Int)
 | 0, _, _ => none
 | k + 1, x0, x5 => if x5 < 3 then (if x5 ≥ (x0.length : Int) then (some 5) else (if 0 ≤ x5 then (if x5 < (x0.length : Int) then (if ((rd_T50 x0 x5).f0) = x5 then (busbarref5_Objects.l2 k x0 (wrap64 (x5 + 1))) else (some 5)) else (none)) else (none))) else (some 0)
end
def busbarref5_Objects.f (k : Nat) (l0 : List (S50)) : Option (Int) := busbarref5_Objects.l0 k l0 0
theorem busbarref5_Objects.mono_l : ∀ k, (∀ y0 y1, LeO (busbarref5_Objects.l0 k y0 y1) (busbarref5_Objects.l0 (k + 1) y0 y1)) ∧ (∀ y0 y1, LeO (busbarref5_Objects.l1 k y0 y1) (busbarref5_Objects.l1 (k + 1) y0 y1)) ∧ (∀ y0 y1, LeO (busbarref5_Objects.l2 k y0 y1) (busbarref5_Objects.l2 (k + 1) y0 y1))
 | 0 => ⟨fun _ _ r h => by simp [busbarref5_Objects.l0] at h, fun _ _ r h => by simp [busbarref5_Objects.l1] at h, fun _ _ r h => by simp [busbarref5_Objects.l2] at h⟩
 | k + 1 => by
  obtain ⟨ih0, ih1, ih2⟩ := busbarref5_Objects.mono_l k
  refine ⟨?_, ?_, ?_⟩
  ·
   intro y0 y1
   unfold busbarref5_Objects.l0
   repeat' first
   | (with_reducible exact ih0 _ _)
   | (with_reducible exact ih1 _ _)
   | (with_reducible exact ih2 _ _)
   | (with_reducible exact LeO.refl _)
   | (with_reducible exact LeO.none _)
   | (with_reducible refine LeO.ite ?_ ?_)
   | (with_reducible refine LeO.bind ?_ (fun _ => ?_))
   | exact ih0 _ _
   | exact ih1 _ _
   | exact ih2 _ _
   | exact LeO.none _
   | refine LeO.ite ?_ ?_
   | refine LeO.bind ?_ (fun _ => ?_)
  ·
   intro y0 y1
   unfold busbarref5_Objects.l1
   repeat' first
   | (with_reducible exact ih0 _ _)
   | (with_reducible exact ih1 _ _)
   | (with_reducible exact ih2 _ _)
   | (with_reducible exact LeO.refl _)
   | (with_reducible exact LeO.none _)
   | (with_reducible refine LeO.ite ?_ ?_)
   | (with_reducible refine LeO.bind ?_ (fun _ => ?_))
   | exact ih0 _ _
   | exact ih1 _ _
   | exact ih2 _ _
   | exact LeO.none _
   | refine LeO.ite ?_ ?_
   | refine LeO.bind ?_ (fun _ => ?_)
  ·
   intro y0 y1
   unfold busbarref5_Objects.l2
   repeat' first
   | (with_reducible exact ih0 _ _)
   | (with_reducible exact ih1 _ _)
   | (with_reducible exact ih2 _ _)
   | (with_reducible exact LeO.refl _)
   | (with_reducible exact LeO.none _)
   | (with_reducible refine LeO.ite ?_ ?_)
   | (with_reducible refine LeO.bind ?_ (fun _ => ?_))
   | exact ih0 _ _
   | exact ih1 _ _
   | exact ih2 _ _
   | exact LeO.none _
   | refine LeO.ite ?_ ?_
   | refine LeO.bind ?_ (fun _ => ?_)
theorem busbarref5_Objects.mono : ∀ a0 k, LeO (busbarref5_Objects.f k a0) (busbarref5_Objects.f (k + 1) a0) := by
 intro a0 k
 obtain ⟨ih0, ih1, ih2⟩ := busbarref5_Objects.mono_l k
 unfold busbarref5_Objects.f
 repeat' first
   | (with_reducible exact ih0 _ _)
   | (with_reducible exact ih1 _ _)
   | (with_reducible exact ih2 _ _)
   | (with_reducible exact LeO.refl _)
   | (with_reducible exact LeO.none _)
   | (with_reducible refine LeO.ite ?_ ?_)
   | (with_reducible refine LeO.bind ?_ (fun _ => ?_))
   | exact ih0 _ _
   | exact ih1 _ _
   | exact ih2 _ _
   | exact LeO.none _
   | refine LeO.ite ?_ ?_
   | refine LeO.bind ?_ (fun _ => ?_)
set_option maxHeartbeats 8000000 in
set_option maxRecDepth 100000 in
theorem busbarref5_Objects.calls (k : Nat) (A0 : Option Addr) (c0 : Nat) (l0 : List (S50)) (r : Int) (w : World) (hr0 : Kd.C k50 w A0 l0.length l0) (hc0 : l0.length ≤ c0) (h : busbarref5_Objects.f k l0 = some r) :
  Calls Try.prog 25 #[.slice A0 l0.length c0] w fun e w' => e = .returned (.int .i64 r) ∧ Drawn0 w w' := by
 have HR0 := Aside0.mk hr0
 have HC0 := Aside0.mk hc0
 clear hr0 hc0
 have H : (busbarref5_Objects.l0 k l0 0) = some r := h
 clear h
 have H' := Aside0.mk H
 clear H
 go_enter Try.func25, Try.ntmps25
 go_wp2
 repeat (go_quiet (fail); try go_wp2)
 go_loopg [3] k (fun kq v3 w' => ∃ (x3_1 : Int), v3 = .int .i64 x3_1 ∧ Aside0 (busbarref5_Objects.l0 kq l0 x3_1 = some r) ∧ Aside0 (kq ≤ k) ∧ Drawn0 w w')
 case atStart => exact ⟨(0), (by first | rfl | (simp; done) | (simp [*]; done)), H', ⟨Nat.le_refl _⟩, by repeat (first | exact Drawn0.refl _ | apply Drawn0.step)⟩
 case round =>
  clear H'
  obtain ⟨x3_1, rfl, HA, HK1, ⟨m1, rfl⟩⟩ := hrel
  cases gk with
  | zero => exact absurd HA.out (by simp [busbarref5_Objects.l0])
  | succ k1 =>
   have H := HA.out
   clear HA
   simp only [busbarref5_Objects.l0] at H
   by_cases c2 : x3_1 < (l0.length : Int)
   ·
    rw [if_pos c2] at H
    have c2b0 : decide (x3_1 < (l0.length : Int)) = true := decide_eq_true c2
    clear c2
    by_cases c3 : 0 ≤ x3_1
    ·
     rw [if_pos c3] at H
     have c3b0 : decide (0 ≤ x3_1) = true := decide_eq_true c3
     clear c3
     replace H := Option.bind_eq_some_iff.mp H
     obtain ⟨t479, A40, H⟩ := H
     replace H : (if t479 = true then (if x3_1 > 0 then (if 0 ≤ (wrap64 (x3_1 - 1)) then (if (wrap64 (x3_1 - 1)) < (l0.length : Int) then (if ((rd_T50 l0 (wrap64 (x3_1 - 1))).f0) ≥ ((rd_T50 l0 x3_1).f0) then (some 1) else (busbarref5_Objects.l0 k1 l0 (wrap64 (x3_1 + 1)))) else (none)) else (none)) else (busbarref5_Objects.l0 k1 l0 (wrap64 (x3_1 + 1)))) else (some 1)) = some r := H
     have A4 := Aside0.mk A40
     clear A40
     by_cases c5 : t479 = true
     ·
      subst c5
      have H1 : (if x3_1 > 0 then (if 0 ≤ (wrap64 (x3_1 - 1)) then (if (wrap64 (x3_1 - 1)) < (l0.length : Int) then (if ((rd_T50 l0 (wrap64 (x3_1 - 1))).f0) ≥ ((rd_T50 l0 x3_1).f0) then (some 1) else (busbarref5_Objects.l0 k1 l0 (wrap64 (x3_1 + 1)))) else (none)) else (none)) else (busbarref5_Objects.l0 k1 l0 (wrap64 (x3_1 + 1)))) = some r := by rw [if_pos rfl] at H; exact H
      clear H
      have H := H1
      clear H1
      by_cases c6 : x3_1 > 0
      ·
       rw [if_pos c6] at H
       have c6b0 : decide (0 < x3_1) = true := decide_eq_true c6
       clear c6
       obtain ⟨ji7, hji7⟩ : ∃ j_ : Int, (wrap64 (x3_1 - 1)) = j_ := ⟨_, rfl⟩
       replace H : (if 0 ≤ (ji7) then (if (ji7) < (l0.length : Int) then (if ((rd_T50 l0 (ji7)).f0) ≥ ((rd_T50 l0 x3_1).f0) then (some 1) else (busbarref5_Objects.l0 k1 l0 (wrap64 (x3_1 + 1)))) else (none)) else (none)) = some r := by first | (rw [hji7] at H; exact H) | (simp only [hji7] at H ⊢; exact H)
       (try rw [hji7] at A4)
       have hji7w : (IntKind.i64.wrap (x3_1 - 1)) = ji7 := (i64_w _).trans hji7
       by_cases c8 : 0 ≤ (ji7)
       ·
        rw [if_pos c8] at H
        have c8b0 : decide (0 ≤ (ji7)) = true := decide_eq_true c8
        clear c8
        by_cases c9 : (ji7) < (l0.length : Int)
        ·
         rw [if_pos c9] at H
         have c9b0 : decide ((ji7) < (l0.length : Int)) = true := decide_eq_true c9
         clear c9
         by_cases c10 : ((rd_T50 l0 (ji7)).f0) ≥ ((rd_T50 l0 x3_1).f0)
         ·
          rw [if_pos c10] at H
          have c10b0 : decide (((rd_T50 l0 x3_1).f0) ≤ ((rd_T50 l0 (ji7)).f0)) = true := decide_eq_true c10
          clear c10
          obtain rfl := Option.some.inj H
          have p478 : 0 ≤ (x3_1 : Int) := of_decide_eq_true (by first | (with_reducible assumption) | assumption)
          have q478 : x3_1 < (l0.length : Int) := of_decide_eq_true (by first | (with_reducible assumption) | assumption)
          obtain ⟨ad478, e478, hx478_0, hx478_1⟩ := at_T50 HR0.out x3_1 p478 q478
          cases e478
          replace p478 := eq_true p478
          replace q478 := eq_true q478
          go_wp2_with (first | (go_at_call 47; (with_reducible refine (busbarref5_byteful.calls ((rd_T50 l0 x3_1).f0) true _ A4.out).mono ?_); rintro e w' ⟨rfl, ⟨nd, rfl⟩⟩; (try first | exact ⟨rfl, _, World.drewN_drewN _ _ _⟩ | exact ⟨rfl, _, Eq.trans (World.drewN_drewN _ _ _) (congrArg (World.drewN _) (Nat.add_assoc _ _ _))⟩); have p480 : 0 ≤ ((ji7) : Int) := of_decide_eq_true (by first | (with_reducible assumption) | assumption); have q480 : (ji7) < (l0.length : Int) := of_decide_eq_true (by first | (with_reducible assumption) | assumption); obtain ⟨ad480, e480, hx480_0, hx480_1⟩ := at_T50 HR0.out (ji7) p480 q480; obtain rfl : ad478 = ad480 := (by injection e480); replace p480 := eq_true p480; replace q480 := eq_true q480; have p481 : 0 ≤ (x3_1 : Int) := of_decide_eq_true (by first | (with_reducible assumption) | assumption); have q481 : x3_1 < (l0.length : Int) := of_decide_eq_true (by first | (with_reducible assumption) | assumption); obtain ⟨ad481, e481, hx481_0, hx481_1⟩ := at_T50 HR0.out x3_1 p481 q481; obtain rfl : ad478 = ad481 := (by injection e481); replace p481 := eq_true p481; replace q481 := eq_true q481))
          repeat (go_quiet (first | (go_at_call 47; (with_reducible refine (busbarref5_byteful.calls ((rd_T50 l0 x3_1).f0) true _ A4.out).mono ?_); rintro e w' ⟨rfl, ⟨nd, rfl⟩⟩; (try first | exact ⟨rfl, _, World.drewN_drewN _ _ _⟩ | exact ⟨rfl, _, Eq.trans (World.drewN_drewN _ _ _) (congrArg (World.drewN _) (Nat.add_assoc _ _ _))⟩); have p480 : 0 ≤ ((ji7) : Int) := of_decide_eq_true (by first | (with_reducible assumption) | assumption); have q480 : (ji7) < (l0.length : Int) := of_decide_eq_true (by first | (with_reducible assumption) | assumption); obtain ⟨ad480, e480, hx480_0, hx480_1⟩ := at_T50 HR0.out (ji7) p480 q480; obtain rfl : ad478 = ad480 := (by injection e480); replace p480 := eq_true p480; replace q480 := eq_true q480; have p481 : 0 ≤ (x3_1 : Int) := of_decide_eq_true (by first | (with_reducible assumption) | assumption); have q481 : x3_1 < (l0.length : Int) := of_decide_eq_true (by first | (with_reducible assumption) | assumption); obtain ⟨ad481, e481, hx481_0, hx481_1⟩ := at_T50 HR0.out x3_1 p481 q481; obtain rfl : ad478 = ad481 := (by injection e481); replace p481 := eq_true p481; replace q481 := eq_true q481)); try go_wp2_with (first | (go_at_call 47; (with_reducible refine (busbarref5_byteful.calls ((rd_T50 l0 x3_1).f0) true _ A4.out).mono ?_); rintro e w' ⟨rfl, ⟨nd, rfl⟩⟩; (try first | exact ⟨rfl, _, World.drewN_drewN _ _ _⟩ | exact ⟨rfl, _, Eq.trans (World.drewN_drewN _ _ _) (congrArg (World.drewN _) (Nat.add_assoc _ _ _))⟩); have p480 : 0 ≤ ((ji7) : Int) := of_decide_eq_true (by first | (with_reducible assumption) | assumption); have q480 : (ji7) < (l0.length : Int) := of_decide_eq_true (by first | (with_reducible assumption) | assumption); obtain ⟨ad480, e480, hx480_0, hx480_1⟩ := at_T50 HR0.out (ji7) p480 q480; obtain rfl : ad478 = ad480 := (by injection e480); replace p480 := eq_true p480; replace q480 := eq_true q480; have p481 : 0 ≤ (x3_1 : Int) := of_decide_eq_true (by first | (with_reducible assumption) | assumption); have q481 : x3_1 < (l0.length : Int) := of_decide_eq_true (by first | (with_reducible assumption) | assumption); obtain ⟨ad481, e481, hx481_0, hx481_1⟩ := at_T50 HR0.out x3_1 p481 q481; obtain rfl : ad478 = ad481 := (by injection e481); replace p481 := eq_true p481; replace q481 := eq_true q481)))
          go_ret
          exact ⟨by first | rfl | (simp; done) | (simp only [← hji7] <;> (first | rfl | simp)) | (simp [*]; done), by repeat (first | exact Drawn0.refl _ | apply Drawn0.step)⟩
         ·
          rw [if_neg c10] at H
          have c10b0 : decide (((rd_T50 l0 x3_1).f0) ≤ ((rd_T50 l0 (ji7)).f0)) = false := decide_eq_false c10
          clear c10
          have H' := Aside0.mk H
          clear H
          have p478 : 0 ≤ (x3_1 : Int) := of_decide_eq_true (by first | (with_reducible assumption) | assumption)
          have q478 : x3_1 < (l0.length : Int) := of_decide_eq_true (by first | (with_reducible assumption) | assumption)
          obtain ⟨ad478, e478, hx478_0, hx478_1⟩ := at_T50 HR0.out x3_1 p478 q478
          cases e478
          replace p478 := eq_true p478
          replace q478 := eq_true q478
          go_wp2_with (first | (go_at_call 47; (with_reducible refine (busbarref5_byteful.calls ((rd_T50 l0 x3_1).f0) true _ A4.out).mono ?_); rintro e w' ⟨rfl, ⟨nd, rfl⟩⟩; (try first | exact ⟨rfl, _, World.drewN_drewN _ _ _⟩ | exact ⟨rfl, _, Eq.trans (World.drewN_drewN _ _ _) (congrArg (World.drewN _) (Nat.add_assoc _ _ _))⟩); have p480 : 0 ≤ ((ji7) : Int) := of_decide_eq_true (by first | (with_reducible assumption) | assumption); have q480 : (ji7) < (l0.length : Int) := of_decide_eq_true (by first | (with_reducible assumption) | assumption); obtain ⟨ad480, e480, hx480_0, hx480_1⟩ := at_T50 HR0.out (ji7) p480 q480; obtain rfl : ad478 = ad480 := (by injection e480); replace p480 := eq_true p480; replace q480 := eq_true q480; have p481 : 0 ≤ (x3_1 : Int) := of_decide_eq_true (by first | (with_reducible assumption) | assumption); have q481 : x3_1 < (l0.length : Int) := of_decide_eq_true (by first | (with_reducible assumption) | assumption); obtain ⟨ad481, e481, hx481_0, hx481_1⟩ := at_T50 HR0.out x3_1 p481 q481; obtain rfl : ad478 = ad481 := (by injection e481); replace p481 := eq_true p481; replace q481 := eq_true q481))
          repeat (go_quiet (first | (go_at_call 47; (with_reducible refine (busbarref5_byteful.calls ((rd_T50 l0 x3_1).f0) true _ A4.out).mono ?_); rintro e w' ⟨rfl, ⟨nd, rfl⟩⟩; (try first | exact ⟨rfl, _, World.drewN_drewN _ _ _⟩ | exact ⟨rfl, _, Eq.trans (World.drewN_drewN _ _ _) (congrArg (World.drewN _) (Nat.add_assoc _ _ _))⟩); have p480 : 0 ≤ ((ji7) : Int) := of_decide_eq_true (by first | (with_reducible assumption) | assumption); have q480 : (ji7) < (l0.length : Int) := of_decide_eq_true (by first | (with_reducible assumption) | assumption); obtain ⟨ad480, e480, hx480_0, hx480_1⟩ := at_T50 HR0.out (ji7) p480 q480; obtain rfl : ad478 = ad480 := (by injection e480); replace p480 := eq_true p480; replace q480 := eq_true q480; have p481 : 0 ≤ (x3_1 : Int) := of_decide_eq_true (by first | (with_reducible assumption) | assumption); have q481 : x3_1 < (l0.length : Int) := of_decide_eq_true (by first | (with_reducible assumption) | assumption); obtain ⟨ad481, e481, hx481_0, hx481_1⟩ := at_T50 HR0.out x3_1 p481 q481; obtain rfl : ad478 = ad481 := (by injection e481); replace p481 := eq_true p481; replace q481 := eq_true q481)); try go_wp2_with (first | (go_at_call 47; (with_reducible refine (busbarref5_byteful.calls ((rd_T50 l0 x3_1).f0) true _ A4.out).mono ?_); rintro e w' ⟨rfl, ⟨nd, rfl⟩⟩; (try first | exact ⟨rfl, _, World.drewN_drewN _ _ _⟩ | exact ⟨rfl, _, Eq.trans (World.drewN_drewN _ _ _) (congrArg (World.drewN _) (Nat.add_assoc _ _ _))⟩); have p480 : 0 ≤ ((ji7) : Int) := of_decide_eq_true (by first | (with_reducible assumption) | assumption); have q480 : (ji7) < (l0.length : Int) := of_decide_eq_true (by first | (with_reducible assumption) | assumption); obtain ⟨ad480, e480, hx480_0, hx480_1⟩ := at_T50 HR0.out (ji7) p480 q480; obtain rfl : ad478 = ad480 := (by injection e480); replace p480 := eq_true p480; replace q480 := eq_true q480; have p481 : 0 ≤ (x3_1 : Int) := of_decide_eq_true (by first | (with_reducible assumption) | assumption); have q481 : x3_1 < (l0.length : Int) := of_decide_eq_true (by first | (with_reducible assumption) | assumption); obtain ⟨ad481, e481, hx481_0, hx481_1⟩ := at_T50 HR0.out x3_1 p481 q481; obtain rfl : ad478 = ad481 := (by injection e481); replace p481 := eq_true p481; replace q481 := eq_true q481)))
          go_roundg k1
          case measure => have := HK1.out; omega
          case rel => exact ⟨(wrap64 (x3_1 + 1)), (by first | rfl | (simp; done) | (simp [*]; done)), H', ⟨by have := HK1.out; omega⟩, by repeat (first | exact Drawn0.refl _ | apply Drawn0.step)⟩
        ·
         rw [if_neg c9] at H
         exact absurd H (by simp)
       ·
        rw [if_neg c8] at H
        exact absurd H (by simp)
      ·
       rw [if_neg c6] at H
       have c6b0 : decide (0 < x3_1) = false := decide_eq_false c6
       clear c6
       have H' := Aside0.mk H
       clear H
       have p478 : 0 ≤ (x3_1 : Int) := of_decide_eq_true (by first | (with_reducible assumption) | assumption)
       have q478 : x3_1 < (l0.length : Int) := of_decide_eq_true (by first | (with_reducible assumption) | assumption)
       obtain ⟨ad478, e478, hx478_0, hx478_1⟩ := at_T50 HR0.out x3_1 p478 q478
       cases e478
       replace p478 := eq_true p478
       replace q478 := eq_true q478
       go_wp2_with (first | (go_at_call 47; (with_reducible refine (busbarref5_byteful.calls ((rd_T50 l0 x3_1).f0) true _ A4.out).mono ?_); rintro e w' ⟨rfl, ⟨nd, rfl⟩⟩; (try first | exact ⟨rfl, _, World.drewN_drewN _ _ _⟩ | exact ⟨rfl, _, Eq.trans (World.drewN_drewN _ _ _) (congrArg (World.drewN _) (Nat.add_assoc _ _ _))⟩)))
       repeat (go_quiet (first | (go_at_call 47; (with_reducible refine (busbarref5_byteful.calls ((rd_T50 l0 x3_1).f0) true _ A4.out).mono ?_); rintro e w' ⟨rfl, ⟨nd, rfl⟩⟩; (try first | exact ⟨rfl, _, World.drewN_drewN _ _ _⟩ | exact ⟨rfl, _, Eq.trans (World.drewN_drewN _ _ _) (congrArg (World.drewN _) (Nat.add_assoc _ _ _))⟩))); try go_wp2_with (first | (go_at_call 47; (with_reducible refine (busbarref5_byteful.calls ((rd_T50 l0 x3_1).f0) true _ A4.out).mono ?_); rintro e w' ⟨rfl, ⟨nd, rfl⟩⟩; (try first | exact ⟨rfl, _, World.drewN_drewN _ _ _⟩ | exact ⟨rfl, _, Eq.trans (World.drewN_drewN _ _ _) (congrArg (World.drewN _) (Nat.add_assoc _ _ _))⟩))))
       go_roundg k1
       case measure => have := HK1.out; omega
       case rel => exact ⟨(wrap64 (x3_1 + 1)), (by first | rfl | (simp; done) | (simp [*]; done)), H', ⟨by have := HK1.out; omega⟩, by repeat (first | exact Drawn0.refl _ | apply Drawn0.step)⟩
     ·
      replace c5 := Bool.eq_false_iff.mpr c5
      subst c5
      have H1 : (some 1) = some r := by rw [if_neg (show ¬ (false = true) by decide)] at H; exact H
      clear H
      have H := H1
      clear H1
      obtain rfl := Option.some.inj H
      have p478 : 0 ≤ (x3_1 : Int) := of_decide_eq_true (by first | (with_reducible assumption) | assumption)
      have q478 : x3_1 < (l0.length : Int) := of_decide_eq_true (by first | (with_reducible assumption) | assumption)
      obtain ⟨ad478, e478, hx478_0, hx478_1⟩ := at_T50 HR0.out x3_1 p478 q478
      cases e478
      replace p478 := eq_true p478
      replace q478 := eq_true q478
      go_wp2_with (first | (go_at_call 47; (with_reducible refine (busbarref5_byteful.calls ((rd_T50 l0 x3_1).f0) false _ A4.out).mono ?_); rintro e w' ⟨rfl, ⟨nd, rfl⟩⟩; (try first | exact ⟨rfl, _, World.drewN_drewN _ _ _⟩ | exact ⟨rfl, _, Eq.trans (World.drewN_drewN _ _ _) (congrArg (World.drewN _) (Nat.add_assoc _ _ _))⟩)))
      repeat (go_quiet (first | (go_at_call 47; (with_reducible refine (busbarref5_byteful.calls ((rd_T50 l0 x3_1).f0) false _ A4.out).mono ?_); rintro e w' ⟨rfl, ⟨nd, rfl⟩⟩; (try first | exact ⟨rfl, _, World.drewN_drewN _ _ _⟩ | exact ⟨rfl, _, Eq.trans (World.drewN_drewN _ _ _) (congrArg (World.drewN _) (Nat.add_assoc _ _ _))⟩))); try go_wp2_with (first | (go_at_call 47; (with_reducible refine (busbarref5_byteful.calls ((rd_T50 l0 x3_1).f0) false _ A4.out).mono ?_); rintro e w' ⟨rfl, ⟨nd, rfl⟩⟩; (try first | exact ⟨rfl, _, World.drewN_drewN _ _ _⟩ | exact ⟨rfl, _, Eq.trans (World.drewN_drewN _ _ _) (congrArg (World.drewN _) (Nat.add_assoc _ _ _))⟩))))
      go_ret
      exact ⟨by first | rfl | (simp; done) | (simp [*]; done), by repeat (first | exact Drawn0.refl _ | apply Drawn0.step)⟩
    ·
     rw [if_neg c3] at H
     exact absurd H (by simp)
   ·
    rw [if_neg c2] at H
    have c2b0 : decide (x3_1 < (l0.length : Int)) = false := decide_eq_false c2
    clear c2
    have H' := Aside0.mk H
    clear H
    go_wp2
    repeat (go_quiet (fail); try go_wp2)
    go_loopg [4] k1 (fun kq v4 w' => ∃ (x4_2 : Int), v4 = .int .i64 x4_2 ∧ Aside0 (busbarref5_Objects.l1 kq l0 x4_2 = some r) ∧ Aside0 (kq ≤ k1) ∧ Drawn0 w w')
    case atStart => exact ⟨(0), (by first | rfl | (simp; done) | (simp [*]; done)), H', ⟨Nat.le_refl _⟩, by repeat (first | exact Drawn0.refl _ | apply Drawn0.step)⟩
    case round =>
     clear H'
     try clear c1
     try clear c2
     try clear c2b0
     try clear p2
     try clear c3
     try clear c3b0
     try clear p4
     try clear q4
     try clear hx4
     try clear c5
     try clear c6
     try clear c6b0
     try clear p6
     try clear c8
     try clear c8b0
     try clear c9
     try clear c9b0
     try clear c10
     try clear c10b0
     try clear hx478_0
     try clear hx478_1
     try clear hx480_0
     try clear hx480_1
     try clear hx481_0
     try clear hx481_1
     try clear p478
     try clear p480
     try clear p481
     try clear q478
     try clear q480
     try clear q481
     obtain ⟨x4_2, rfl, HA, HK2, ⟨m2, rfl⟩⟩ := hrel
     cases gk with
     | zero => exact absurd HA.out (by simp [busbarref5_Objects.l1])
     | succ k2 =>
      have H := HA.out
      clear HA
      simp only [busbarref5_Objects.l1] at H
      by_cases c11 : x4_2 < (l0.length : Int)
      ·
       rw [if_pos c11] at H
       have c11b0 : decide (x4_2 < (l0.length : Int)) = true := decide_eq_true c11
       clear c11
       by_cases c12 : 0 ≤ x4_2
       ·
        rw [if_pos c12] at H
        have c12b0 : decide (0 ≤ x4_2) = true := decide_eq_true c12
        clear c12
        by_cases c13 : (((rd_T50 l0 x4_2).f1).size : Int) > 244
        ·
         rw [if_pos c13] at H
         have c13b0 : decide (244 < (((rd_T50 l0 x4_2).f1).size : Int)) = true := decide_eq_true c13
         have c13b1 : decide (244 < ((rd_T50 l0 x4_2).f1).size) = true := decide_eq_true (by omega)
         clear c13
         obtain rfl := Option.some.inj H
         have p482 : 0 ≤ (x4_2 : Int) := of_decide_eq_true (by first | (with_reducible assumption) | assumption)
         have q482 : x4_2 < (l0.length : Int) := of_decide_eq_true (by first | (with_reducible assumption) | assumption)
         obtain ⟨ad482, e482, hx482_0, hx482_1⟩ := at_T50 HR0.out x4_2 p482 q482
         cases e482
         replace p482 := eq_true p482
         replace q482 := eq_true q482
         go_wp2
         repeat (go_quiet (fail); try go_wp2)
         go_ret
         exact ⟨by first | rfl | (simp; done) | (simp [*]; done), by repeat (first | exact Drawn0.refl _ | apply Drawn0.step)⟩
        ·
         rw [if_neg c13] at H
         have c13b0 : decide (244 < (((rd_T50 l0 x4_2).f1).size : Int)) = false := decide_eq_false c13
         have c13b1 : decide (244 < ((rd_T50 l0 x4_2).f1).size) = false := decide_eq_false (by omega)
         clear c13
         have H' := Aside0.mk H
         clear H
         have p482 : 0 ≤ (x4_2 : Int) := of_decide_eq_true (by first | (with_reducible assumption) | assumption)
         have q482 : x4_2 < (l0.length : Int) := of_decide_eq_true (by first | (with_reducible assumption) | assumption)
         obtain ⟨ad482, e482, hx482_0, hx482_1⟩ := at_T50 HR0.out x4_2 p482 q482
         cases e482
         replace p482 := eq_true p482
         replace q482 := eq_true q482
         go_wp2
         repeat (go_quiet (fail); try go_wp2)
         go_roundg k2
         case measure => have := HK1.out; have := HK2.out; omega
         case rel => exact ⟨(wrap64 (x4_2 + 1)), (by first | rfl | (simp; done) | (simp [*]; done)), H', ⟨by have := HK1.out; have := HK2.out; omega⟩, by repeat (first | exact Drawn0.refl _ | apply Drawn0.step)⟩
       ·
        rw [if_neg c12] at H
        exact absurd H (by simp)
      ·
       rw [if_neg c11] at H
       have c11b0 : decide (x4_2 < (l0.length : Int)) = false := decide_eq_false c11
       clear c11
       have H' := Aside0.mk H
       clear H
       go_wp2
       repeat (go_quiet (fail); try go_wp2)
       go_loopg [5] k2 (fun kq v5 w' => ∃ (x5_3 : Int), v5 = .int .i64 x5_3 ∧ Aside0 (busbarref5_Objects.l2 kq l0 x5_3 = some r) ∧ Aside0 (kq ≤ k2) ∧ Drawn0 w w')
       case atStart => exact ⟨(0), (by first | rfl | (simp; done) | (simp [*]; done)), H', ⟨Nat.le_refl _⟩, by repeat (first | exact Drawn0.refl _ | apply Drawn0.step)⟩
       case round =>
        clear H'
        try clear c1
        try clear c2
        try clear c2b0
        try clear p2
        try clear c3
        try clear c3b0
        try clear p4
        try clear q4
        try clear hx4
        try clear c5
        try clear c6
        try clear c6b0
        try clear p6
        try clear c8
        try clear c8b0
        try clear c9
        try clear c9b0
        try clear c10
        try clear c10b0
        try clear c11
        try clear c11b0
        try clear c12
        try clear c12b0
        try clear c13
        try clear c13b0
        try clear c13b1
        try clear hx478_0
        try clear hx478_1
        try clear hx480_0
        try clear hx480_1
        try clear hx481_0
        try clear hx481_1
        try clear hx482_0
        try clear hx482_1
        try clear p2
        try clear p4
        try clear p478
        try clear p480
        try clear p481
        try clear p482
        try clear p6
        try clear q4
        try clear q478
        try clear q480
        try clear q481
        try clear q482
        obtain ⟨x5_3, rfl, HA, HK3, ⟨m3, rfl⟩⟩ := hrel
        cases gk with
        | zero => exact absurd HA.out (by simp [busbarref5_Objects.l2])
        | succ k3 =>
         have H := HA.out
         clear HA
         simp only [busbarref5_Objects.l2] at H
         by_cases c14 : x5_3 < 3
         ·
          rw [if_pos c14] at H
          have c14b0 : decide (x5_3 < 3) = true := decide_eq_true c14
          clear c14
          by_cases c15 : x5_3 ≥ (l0.length : Int)
          ·
           rw [if_pos c15] at H
           have c15b0 : decide ((l0.length : Int) ≤ x5_3) = true := decide_eq_true c15
           clear c15
           obtain rfl := Option.some.inj H
           go_wp2
           repeat (go_quiet (fail); try go_wp2)
           go_ret
           exact ⟨by first | rfl | (simp; done) | (simp [*]; done), by repeat (first | exact Drawn0.refl _ | apply Drawn0.step)⟩
          ·
           rw [if_neg c15] at H
           have c15b0 : decide ((l0.length : Int) ≤ x5_3) = false := decide_eq_false c15
           clear c15
           by_cases c16 : 0 ≤ x5_3
           ·
            rw [if_pos c16] at H
            have c16b0 : decide (0 ≤ x5_3) = true := decide_eq_true c16
            clear c16
            by_cases c17 : x5_3 < (l0.length : Int)
            ·
             rw [if_pos c17] at H
             have c17b0 : decide (x5_3 < (l0.length : Int)) = true := decide_eq_true c17
             clear c17
             by_cases c18 : ((rd_T50 l0 x5_3).f0) = x5_3
             ·
              rw [if_pos c18] at H
              have c18b0 : (((rd_T50 l0 x5_3).f0) == x5_3) = true := beq_iff_eq.mpr c18
              have c18b1 : (((rd_T50 l0 x5_3).f0) != x5_3) = false := bne_eq_false_iff_eq.mpr c18
              clear c18
              have H' := Aside0.mk H
              clear H
              have p483 : 0 ≤ (x5_3 : Int) := of_decide_eq_true (by first | (with_reducible assumption) | assumption)
              have q483 : x5_3 < (l0.length : Int) := of_decide_eq_true (by first | (with_reducible assumption) | assumption)
              obtain ⟨ad483, e483, hx483_0, hx483_1⟩ := at_T50 HR0.out x5_3 p483 q483
              cases e483
              replace p483 := eq_true p483
              replace q483 := eq_true q483
              go_wp2
              repeat (go_quiet (fail); try go_wp2)
              go_roundg k3
              case measure => have := HK1.out; have := HK2.out; have := HK3.out; omega
              case rel => exact ⟨(wrap64 (x5_3 + 1)), (by first | rfl | (simp; done) | (simp [*]; done)), H', ⟨by have := HK1.out; have := HK2.out; have := HK3.out; omega⟩, by repeat (first | exact Drawn0.refl _ | apply Drawn0.step)⟩
             ·
              rw [if_neg c18] at H
              have c18b0 : (((rd_T50 l0 x5_3).f0) == x5_3) = false := beq_eq_false_iff_ne.mpr c18
              have c18b1 : (((rd_T50 l0 x5_3).f0) != x5_3) = true := bne_iff_ne.mpr c18
              obtain rfl := Option.some.inj H
              have p483 : 0 ≤ (x5_3 : Int) := of_decide_eq_true (by first | (with_reducible assumption) | assumption)
              have q483 : x5_3 < (l0.length : Int) := of_decide_eq_true (by first | (with_reducible assumption) | assumption)
              obtain ⟨ad483, e483, hx483_0, hx483_1⟩ := at_T50 HR0.out x5_3 p483 q483
              cases e483
              replace p483 := eq_true p483
              replace q483 := eq_true q483
              go_wp2
              repeat (go_quiet (fail); try go_wp2)
              go_ret
              exact ⟨by first | rfl | (simp; done) | (simp [*]; done), by repeat (first | exact Drawn0.refl _ | apply Drawn0.step)⟩
            ·
             rw [if_neg c17] at H
             exact absurd H (by simp)
           ·
            rw [if_neg c16] at H
            exact absurd H (by simp)
         ·
          rw [if_neg c14] at H
          have c14b0 : decide (x5_3 < 3) = false := decide_eq_false c14
          clear c14
          obtain rfl := Option.some.inj H
          go_wp2
          repeat (go_quiet (fail); try go_wp2)
          go_ret
          exact ⟨by first | rfl | (simp; done) | (simp [*]; done), by repeat (first | exact Drawn0.refl _ | apply Drawn0.step)⟩
end Go.Proofs.Ytjlbgopgeepiaaa.PConf
