/- Words and walks for ConfChecks (made of the session's own texts; each part by itself). -/
import Derived.Test.YtjlbgopgeepiaaaZConfChecks5
namespace Go.Proofs.Ytjlbgopgeepiaaa.PConf
open Go.RowKit Go.Proofs.YtjlbgopgeepiaaaW.PrintWords Go.Proofs.YtjlbgopgeepiaaaW.PrintLast Go.Proofs.YtjlbgopgeepiaaaW.PrintMore
attribute [local go_sem] max2_int min2_int max_two min_two max_three min_three max_four min_four plus_setCell_drewN plus_cell_same   -- for this text's walks alone
set_option linter.unusedVariables false
set_option linter.unusedSimpArgs false
mutual
def busbarref12_Check.j0 : Nat → Bool → List (S46) → List (S48) → Int → Int → Int → Int → Int → Int → Int → Int → Int → Int → List (S50) → Option (Int)
 | 0, _, _, _, _, _, _, _, _, _, _, _, _, _, _ => none
 | k + 1, x5, x486000, x486001, x486002, x486003, x486004, x486005, x486006, x486007, x486008, x486009, x486010, x486011, x486012 => if x5 = true then (some 1) else (if x486006 < 0 then (busbarref12_Check.j1 k true x486000 x486001 x486002 x486003 x486004 x486005 x486006 x486007 x486008 x486009 x486010 x486011 x486012) else (if x486006 > 1048576 then (busbarref12_Check.j1 k true x486000 x486001 x486002 x486003 x486004 x486005 x486006 x486007 x486008 x486009 x486010 x486011 x486012) else (if x486007 < 1 then (busbarref12_Check.j1 k true x486000 x486001 x486002 x486003 x486004 x486005 x486006 x486007 x486008 x486009 x486010 x486011 x486012) else (if x486007 > 1000 then (busbarref12_Check.j1 k true x486000 x486001 x486002 x486003 x486004 x486005 x486006 x486007 x486008 x486009 x486010 x486011 x486012) else (if x486008 < 1 then (busbarref12_Check.j1 k true x486000 x486001 x486002 x486003 x486004 x486005 x486006 x486007 x486008 x486009 x486010 x486011 x486012) else (busbarref12_Check.j1 k (decide (x486008 > 5000)) x486000 x486001 x486002 x486003 x486004 x486005 x486006 x486007 x486008 x486009 x486010 x486011 x486012))))))
def busbarref12_Check.j1 : Nat → Bool → List (S46) → List (S48) → Int → Int → Int → Int → Int → Int → Int → Int → Int → Int → List (S50) → Option (Int)
 | 0, _, _, _, _, _, _, _, _, _, _, _, _, _, _ => none
 | k + 1, x34, x486000, x486001, x486002, x486003, x486004, x486005, x486006, x486007, x486008, x486009, x486010, x486011, x486012 => if x34 = true then (some 1) else (if x486009 < 260 then (some 1) else (if x486009 > 65536 then (some 1) else (if x486010 < 260 then (some 1) else (if x486010 > 65536 then (some 1) else ((busbarref12_Plan.f k x486000 x486002).bind fun t486 => (if t486 = 0 then ((busbarref12_Groups.f k x486001 x486000).bind fun t487 => (if t487 = 0 then ((busbarref5_Objects.f k x486012).bind fun t488 => (some t488)) else (some t487))) else (some t486)))))))
end
def busbarref12_Check.f (k : Nat) (l0_0 : List (S46)) (l0_1 : List (S48)) (a0_2 : Int) (a0_3 : Int) (a0_4 : Int) (a0_5 : Int) (a0_6 : Int) (a0_7 : Int) (a0_8 : Int) (a0_9 : Int) (a0_10 : Int) (a0_11 : Int) (l0_12 : List (S50)) : Option (Int) := if a0_3 < 1 then (busbarref12_Check.j0 k true l0_0 l0_1 a0_2 a0_3 a0_4 a0_5 a0_6 a0_7 a0_8 a0_9 a0_10 a0_11 l0_12) else (if a0_3 > 65535 then (busbarref12_Check.j0 k true l0_0 l0_1 a0_2 a0_3 a0_4 a0_5 a0_6 a0_7 a0_8 a0_9 a0_10 a0_11 l0_12) else (if a0_4 < 1 then (busbarref12_Check.j0 k true l0_0 l0_1 a0_2 a0_3 a0_4 a0_5 a0_6 a0_7 a0_8 a0_9 a0_10 a0_11 l0_12) else (if a0_4 > 32 then (busbarref12_Check.j0 k true l0_0 l0_1 a0_2 a0_3 a0_4 a0_5 a0_6 a0_7 a0_8 a0_9 a0_10 a0_11 l0_12) else (if a0_5 < 0 then (busbarref12_Check.j0 k true l0_0 l0_1 a0_2 a0_3 a0_4 a0_5 a0_6 a0_7 a0_8 a0_9 a0_10 a0_11 l0_12) else (busbarref12_Check.j0 k (decide (a0_5 > 32)) l0_0 l0_1 a0_2 a0_3 a0_4 a0_5 a0_6 a0_7 a0_8 a0_9 a0_10 a0_11 l0_12)))))
theorem busbarref12_Check.mono_l : ∀ k, (∀ y0 y1 y2 y3 y4 y5 y6 y7 y8 y9 y10 y11 y12 y13, LeO (busbarref12_Check.j0 k y0 y1 y2 y3 y4 y5 y6 y7 y8 y9 y10 y11 y12 y13) (busbarref12_Check.j0 (k + 1) y0 y1 y2 y3 y4 y5 y6 y7 y8 y9 y10 y11 y12 y13)) ∧ (∀ y0 y1 y2 y3 y4 y5 y6 y7 y8 y9 y10 y11 y12 y13, LeO (busbarref12_Check.j1 k y0 y1 y2 y3 y4 y5 y6 y7 y8 y9 y10 y11 y12 y13) (busbarref12_Check.j1 (k + 1) y0 y1 y2 y3 y4 y5 y6 y7 y8 y9 y10 y11 y12 y13))
 | 0 => ⟨fun _ _ _ _ _ _ _ _ _ _ _ _ _ _ r h => by simp [busbarref12_Check.j0] at h, fun _ _ _ _ _ _ _ _ _ _ _ _ _ _ r h => by simp [busbarref12_Check.j1] at h⟩
 | k + 1 => by
  obtain ⟨ih0, ih1⟩ := busbarref12_Check.mono_l k
  refine ⟨?_, ?_⟩
  ·
   intro y0 y1 y2 y3 y4 y5 y6 y7 y8 y9 y10 y11 y12 y13
   unfold busbarref12_Check.j0
   repeat' first
   | (with_reducible exact ih0 _ _ _ _ _ _ _ _ _ _ _ _ _ _)
   | (with_reducible exact ih1 _ _ _ _ _ _ _ _ _ _ _ _ _ _)
   | (with_reducible exact busbarref12_Groups.mono _ _ _)
   | (with_reducible exact busbarref12_Plan.mono _ _ _)
   | (with_reducible exact busbarref5_Objects.mono _ _)
   | (with_reducible exact LeO.refl _)
   | (with_reducible exact LeO.none _)
   | (with_reducible refine LeO.ite ?_ ?_)
   | (with_reducible refine LeO.bind ?_ (fun _ => ?_))
   | exact ih0 _ _ _ _ _ _ _ _ _ _ _ _ _ _
   | exact ih1 _ _ _ _ _ _ _ _ _ _ _ _ _ _
   | exact busbarref12_Groups.mono _ _ _
   | exact busbarref12_Plan.mono _ _ _
   | exact busbarref5_Objects.mono _ _
   | exact LeO.none _
   | refine LeO.ite ?_ ?_
   | refine LeO.bind ?_ (fun _ => ?_)
  ·
   intro y0 y1 y2 y3 y4 y5 y6 y7 y8 y9 y10 y11 y12 y13
   unfold busbarref12_Check.j1
   repeat' first
   | (with_reducible exact ih0 _ _ _ _ _ _ _ _ _ _ _ _ _ _)
   | (with_reducible exact ih1 _ _ _ _ _ _ _ _ _ _ _ _ _ _)
   | (with_reducible exact busbarref12_Groups.mono _ _ _)
   | (with_reducible exact busbarref12_Plan.mono _ _ _)
   | (with_reducible exact busbarref5_Objects.mono _ _)
   | (with_reducible exact LeO.refl _)
   | (with_reducible exact LeO.none _)
   | (with_reducible refine LeO.ite ?_ ?_)
   | (with_reducible refine LeO.bind ?_ (fun _ => ?_))
   | exact ih0 _ _ _ _ _ _ _ _ _ _ _ _ _ _
   | exact ih1 _ _ _ _ _ _ _ _ _ _ _ _ _ _
   | exact busbarref12_Groups.mono _ _ _
   | exact busbarref12_Plan.mono _ _ _
   | exact busbarref5_Objects.mono _ _
   | exact LeO.none _
   | refine LeO.ite ?_ ?_
   | refine LeO.bind ?_ (fun _ => ?_)
theorem busbarref12_Check.mono : ∀ a0 a1 a2 a3 a4 a5 a6 a7 a8 a9 a10 a11 a12 k, LeO (busbarref12_Check.f k a0 a1 a2 a3 a4 a5 a6 a7 a8 a9 a10 a11 a12) (busbarref12_Check.f (k + 1) a0 a1 a2 a3 a4 a5 a6 a7 a8 a9 a10 a11 a12) := by
 intro a0 a1 a2 a3 a4 a5 a6 a7 a8 a9 a10 a11 a12 k
 obtain ⟨ih0, ih1⟩ := busbarref12_Check.mono_l k
 unfold busbarref12_Check.f
 repeat' first
   | (with_reducible exact ih0 _ _ _ _ _ _ _ _ _ _ _ _ _ _)
   | (with_reducible exact ih1 _ _ _ _ _ _ _ _ _ _ _ _ _ _)
   | (with_reducible exact busbarref12_Groups.mono _ _ _)
   | (with_reducible exact busbarref12_Plan.mono _ _ _)
   | (with_reducible exact busbarref5_Objects.mono _ _)
   | (with_reducible exact LeO.refl _)
   | (with_reducible exact LeO.none _)
   | (with_reducible refine LeO.ite ?_ ?_)
   | (with_reducible refine LeO.bind ?_ (fun _ => ?_))
   | exact ih0 _ _ _ _ _ _ _ _ _ _ _ _ _ _
   | exact ih1 _ _ _ _ _ _ _ _ _ _ _ _ _ _
   | exact busbarref12_Groups.mono _ _ _
   | exact busbarref12_Plan.mono _ _ _
   | exact busbarref5_Objects.mono _ _
   | exact LeO.none _
   | refine LeO.ite ?_ ?_
   | refine LeO.bind ?_ (fun _ => ?_)
set_option maxHeartbeats 8000000 in
set_option maxRecDepth 100000 in
theorem busbarref12_Check.calls (k : Nat) (A0_0 : Option Addr) (c0_0 : Nat) (l0_0 : List (S46)) (A0_1 : Option Addr) (c0_1 : Nat) (l0_1 : List (S48)) (a0_2 : Int) (a0_3 : Int) (a0_4 : Int) (a0_5 : Int) (a0_6 : Int) (a0_7 : Int) (a0_8 : Int) (a0_9 : Int) (a0_10 : Int) (a0_11 : Int) (A0_12 : Option Addr) (c0_12 : Nat) (l0_12 : List (S50)) (r : Int) (w : World) (hr0_0 : Kd.C k46 w A0_0 l0_0.length l0_0) (hc0_0 : l0_0.length ≤ c0_0) (hr0_1 : Kd.C k48 w A0_1 l0_1.length l0_1) (hc0_1 : l0_1.length ≤ c0_1) (hr0_12 : Kd.C k50 w A0_12 l0_12.length l0_12) (hc0_12 : l0_12.length ≤ c0_12) (h : busbarref12_Check.f k l0_0 l0_1 a0_2 a0_3 a0_4 a0_5 a0_6 a0_7 a0_8 a0_9 a0_10 a0_11 l0_12 = some r) :
  Calls Try.prog 9 #[.agg #[.slice A0_0 l0_0.length c0_0, .slice A0_1 l0_1.length c0_1, .int .i64 a0_2, .int .i64 a0_3, .int .i64 a0_4, .int .i64 a0_5, .int .i64 a0_6, .int .i64 a0_7, .int .i64 a0_8, .int .i64 a0_9, .int .i64 a0_10, .int .u64 a0_11, .slice A0_12 l0_12.length c0_12]] w fun e w' => e = .returned (.int .i64 r) ∧ Below w.heap.size w w' := by
 have hu27 := Try.underlying27
 have HR0_0 := Aside0.mk hr0_0
 have HC0_0 := Aside0.mk hc0_0
 clear hr0_0 hc0_0
 have HR0_1 := Aside0.mk hr0_1
 have HC0_1 := Aside0.mk hc0_1
 clear hr0_1 hc0_1
 have HR0_12 := Aside0.mk hr0_12
 have HC0_12 := Aside0.mk hc0_12
 clear hr0_12 hc0_12
 have HB := Aside0.mk (Below.refl w.heap.size w)
 have H : (if a0_3 < 1 then (busbarref12_Check.j0 k true l0_0 l0_1 a0_2 a0_3 a0_4 a0_5 a0_6 a0_7 a0_8 a0_9 a0_10 a0_11 l0_12) else (if a0_3 > 65535 then (busbarref12_Check.j0 k true l0_0 l0_1 a0_2 a0_3 a0_4 a0_5 a0_6 a0_7 a0_8 a0_9 a0_10 a0_11 l0_12) else (if a0_4 < 1 then (busbarref12_Check.j0 k true l0_0 l0_1 a0_2 a0_3 a0_4 a0_5 a0_6 a0_7 a0_8 a0_9 a0_10 a0_11 l0_12) else (if a0_4 > 32 then (busbarref12_Check.j0 k true l0_0 l0_1 a0_2 a0_3 a0_4 a0_5 a0_6 a0_7 a0_8 a0_9 a0_10 a0_11 l0_12) else (if a0_5 < 0 then (busbarref12_Check.j0 k true l0_0 l0_1 a0_2 a0_3 a0_4 a0_5 a0_6 a0_7 a0_8 a0_9 a0_10 a0_11 l0_12) else (busbarref12_Check.j0 k (decide (a0_5 > 32)) l0_0 l0_1 a0_2 a0_3 a0_4 a0_5 a0_6 a0_7 a0_8 a0_9 a0_10 a0_11 l0_12)))))) = some r := h
 clear h
 have HC2 := Aside0.mk H
 clear H
 go_enter Try.func9, Try.ntmps9
 go_upto_region 1 with (first | ((with_reducible refine gate_dst (N := 1) rfl ?_); refine box_event ?hg (N := 1) ?hd (cs := #[.slice A0_0 l0_0.length c0_0, .slice A0_1 l0_1.length c0_1, .int .i64 a0_2, .int .i64 a0_3, .int .i64 a0_4, .int .i64 a0_5, .int .i64 a0_6, .int .i64 a0_7, .int .i64 a0_8, .int .i64 a0_9, .int .i64 a0_10, .int .u64 a0_11, .slice A0_12 l0_12.length c0_12]) (t := 27) ?hr ?_; (case hd => rfl); (case hg => rfl); (case hr => first | (go_simp; done) | (go_simp; rfl)); intro gb485 hg w3 hbox hb; have BK485 := Aside0.mk (hbox); have GW485 := Aside0.mk ((by rw [hg]; exact (below_size (HB.out)) : w.heap.size ≤ gb485)); have GE485 := Aside0.mk ((by rw [hg]; exact (below_size (HB.out)) : w.heap.size ≤ gb485)); replace HB := Aside0.mk (below_step (HB.out) hb); clear hb hbox hg))
 (try simp only [Act.put, List.setIfInBounds_toArray, List.set_cons_zero, List.set_cons_succ])
 go_cut [5] (fun v5 wc => ∃ (kq : Nat) (x5_1 : Bool), v5 = .bool x5_1 ∧ Aside0 (busbarref12_Check.j0 kq x5_1 l0_0 l0_1 a0_2 a0_3 a0_4 a0_5 a0_6 a0_7 a0_8 a0_9 a0_10 a0_11 l0_12 = some r) ∧ Aside0 (kq ≤ k) ∧ Aside0 (wc.heap[gb485]? = some (.cells #[(.slice A0_0 l0_0.length c0_0), (.slice A0_1 l0_1.length c0_1), .int .i64 a0_2, .int .i64 a0_3, .int .i64 a0_4, .int .i64 a0_5, .int .i64 a0_6, .int .i64 a0_7, .int .i64 a0_8, .int .i64 a0_9, .int .i64 a0_10, .int .u64 a0_11, (.slice A0_12 l0_12.length c0_12)] 27 (0, 0))) ∧ Aside0 (Below w.heap.size w wc))
 case first =>
  have H := HC2.out
  clear HC2
  by_cases c4 : a0_3 < 1
  ·
   rw [if_pos c4] at H
   have c4b0 : decide (a0_3 < 1) = true := decide_eq_true c4
   clear c4
   (first | rw [c4b0] | (simp only [i64_w, i32_w]; rw [c4b0]) | skip)
   have H' := Aside0.mk H
   clear H
   obtain ⟨hcz5_0, hcz5_1, hcz5_2, hcz5_3, hcz5_4, hcz5_5, hcz5_6, hcz5_7, hcz5_8, hcz5_9, hcz5_10, hcz5_11, hcz5_12⟩ := blkc13 BK485.out
   obtain ⟨hfz5_0, hfz5_1, hfz5_2, hfz5_3, hfz5_4, hfz5_5, hfz5_6, hfz5_7, hfz5_8, hfz5_9, hfz5_10, hfz5_11, hfz5_12⟩ := blkf13 BK485.out
   go_wp2
   go_meet
   case rel => exact ⟨_, (true), (by first | rfl | (simp; done) | (simp [*]; done)), H', ⟨by first | omega | exact Nat.le_refl _⟩, ⟨BK485.out⟩, ⟨HB.out⟩⟩
  ·
   rw [if_neg c4] at H
   have c4b0 : decide (a0_3 < 1) = false := decide_eq_false c4
   clear c4
   (first | rw [c4b0] | (simp only [i64_w, i32_w]; rw [c4b0]) | skip)
   by_cases c6 : a0_3 > 65535
   ·
    rw [if_pos c6] at H
    have c6b0 : decide (65535 < a0_3) = true := decide_eq_true c6
    clear c6
    have H' := Aside0.mk H
    clear H
    obtain ⟨hcz7_0, hcz7_1, hcz7_2, hcz7_3, hcz7_4, hcz7_5, hcz7_6, hcz7_7, hcz7_8, hcz7_9, hcz7_10, hcz7_11, hcz7_12⟩ := blkc13 BK485.out
    obtain ⟨hfz7_0, hfz7_1, hfz7_2, hfz7_3, hfz7_4, hfz7_5, hfz7_6, hfz7_7, hfz7_8, hfz7_9, hfz7_10, hfz7_11, hfz7_12⟩ := blkf13 BK485.out
    go_wp2
    go_meet
    case rel => exact ⟨_, (true), (by first | rfl | (simp; done) | (simp [*]; done)), H', ⟨by first | omega | exact Nat.le_refl _⟩, ⟨BK485.out⟩, ⟨HB.out⟩⟩
   ·
    rw [if_neg c6] at H
    have c6b0 : decide (65535 < a0_3) = false := decide_eq_false c6
    clear c6
    by_cases c8 : a0_4 < 1
    ·
     rw [if_pos c8] at H
     have c8b0 : decide (a0_4 < 1) = true := decide_eq_true c8
     clear c8
     have H' := Aside0.mk H
     clear H
     obtain ⟨hcz9_0, hcz9_1, hcz9_2, hcz9_3, hcz9_4, hcz9_5, hcz9_6, hcz9_7, hcz9_8, hcz9_9, hcz9_10, hcz9_11, hcz9_12⟩ := blkc13 BK485.out
     obtain ⟨hfz9_0, hfz9_1, hfz9_2, hfz9_3, hfz9_4, hfz9_5, hfz9_6, hfz9_7, hfz9_8, hfz9_9, hfz9_10, hfz9_11, hfz9_12⟩ := blkf13 BK485.out
     go_wp2
     go_meet
     case rel => exact ⟨_, (true), (by first | rfl | (simp; done) | (simp [*]; done)), H', ⟨by first | omega | exact Nat.le_refl _⟩, ⟨BK485.out⟩, ⟨HB.out⟩⟩
    ·
     rw [if_neg c8] at H
     have c8b0 : decide (a0_4 < 1) = false := decide_eq_false c8
     clear c8
     by_cases c10 : a0_4 > 32
     ·
      rw [if_pos c10] at H
      have c10b0 : decide (32 < a0_4) = true := decide_eq_true c10
      clear c10
      have H' := Aside0.mk H
      clear H
      obtain ⟨hcz11_0, hcz11_1, hcz11_2, hcz11_3, hcz11_4, hcz11_5, hcz11_6, hcz11_7, hcz11_8, hcz11_9, hcz11_10, hcz11_11, hcz11_12⟩ := blkc13 BK485.out
      obtain ⟨hfz11_0, hfz11_1, hfz11_2, hfz11_3, hfz11_4, hfz11_5, hfz11_6, hfz11_7, hfz11_8, hfz11_9, hfz11_10, hfz11_11, hfz11_12⟩ := blkf13 BK485.out
      go_wp2
      go_meet
      case rel => exact ⟨_, (true), (by first | rfl | (simp; done) | (simp [*]; done)), H', ⟨by first | omega | exact Nat.le_refl _⟩, ⟨BK485.out⟩, ⟨HB.out⟩⟩
     ·
      rw [if_neg c10] at H
      have c10b0 : decide (32 < a0_4) = false := decide_eq_false c10
      clear c10
      by_cases c12 : a0_5 < 0
      ·
       rw [if_pos c12] at H
       have c12b0 : decide (a0_5 < 0) = true := decide_eq_true c12
       clear c12
       have H' := Aside0.mk H
       clear H
       obtain ⟨hcz13_0, hcz13_1, hcz13_2, hcz13_3, hcz13_4, hcz13_5, hcz13_6, hcz13_7, hcz13_8, hcz13_9, hcz13_10, hcz13_11, hcz13_12⟩ := blkc13 BK485.out
       obtain ⟨hfz13_0, hfz13_1, hfz13_2, hfz13_3, hfz13_4, hfz13_5, hfz13_6, hfz13_7, hfz13_8, hfz13_9, hfz13_10, hfz13_11, hfz13_12⟩ := blkf13 BK485.out
       go_wp2
       go_meet
       case rel => exact ⟨_, (true), (by first | rfl | (simp; done) | (simp [*]; done)), H', ⟨by first | omega | exact Nat.le_refl _⟩, ⟨BK485.out⟩, ⟨HB.out⟩⟩
      ·
       rw [if_neg c12] at H
       have c12b0 : decide (a0_5 < 0) = false := decide_eq_false c12
       clear c12
       have H' := Aside0.mk H
       clear H
       obtain ⟨hcz14_0, hcz14_1, hcz14_2, hcz14_3, hcz14_4, hcz14_5, hcz14_6, hcz14_7, hcz14_8, hcz14_9, hcz14_10, hcz14_11, hcz14_12⟩ := blkc13 BK485.out
       obtain ⟨hfz14_0, hfz14_1, hfz14_2, hfz14_3, hfz14_4, hfz14_5, hfz14_6, hfz14_7, hfz14_8, hfz14_9, hfz14_10, hfz14_11, hfz14_12⟩ := blkf13 BK485.out
       go_wp2
       go_meet
       case rel => exact ⟨_, (decide (a0_5 > 32)), (by first | rfl | (simp; done) | (simp [*]; done)), H', ⟨by first | omega | exact Nat.le_refl _⟩, ⟨BK485.out⟩, ⟨HB.out⟩⟩
 case rest =>
  clear HC2
  obtain ⟨kq, x5_1, rfl, HA, HJ1, BK485, HB⟩ := hcut
  cases kq with
  | zero => exact absurd HA.out (by simp [busbarref12_Check.j0])
  | succ kj1 =>
   have H := HA.out
   clear HA
   simp only [busbarref12_Check.j0] at H
   by_cases c15 : x5_1 = true
   ·
    subst c15
    have H1 : (some 1) = some r := by rw [if_pos rfl] at H; exact H
    clear H
    have H := H1
    clear H1
    obtain rfl := Option.some.inj H
    go_wp2
    go_ret
    exact ⟨by first | rfl | (simp [errW_none, errW_some] <;> rfl) | (simp [*, errW_none, errW_some] <;> rfl), HB.out⟩
   ·
    replace c15 := Bool.eq_false_iff.mpr c15
    subst c15
    have H1 : (if a0_6 < 0 then (busbarref12_Check.j1 kj1 true l0_0 l0_1 a0_2 a0_3 a0_4 a0_5 a0_6 a0_7 a0_8 a0_9 a0_10 a0_11 l0_12) else (if a0_6 > 1048576 then (busbarref12_Check.j1 kj1 true l0_0 l0_1 a0_2 a0_3 a0_4 a0_5 a0_6 a0_7 a0_8 a0_9 a0_10 a0_11 l0_12) else (if a0_7 < 1 then (busbarref12_Check.j1 kj1 true l0_0 l0_1 a0_2 a0_3 a0_4 a0_5 a0_6 a0_7 a0_8 a0_9 a0_10 a0_11 l0_12) else (if a0_7 > 1000 then (busbarref12_Check.j1 kj1 true l0_0 l0_1 a0_2 a0_3 a0_4 a0_5 a0_6 a0_7 a0_8 a0_9 a0_10 a0_11 l0_12) else (if a0_8 < 1 then (busbarref12_Check.j1 kj1 true l0_0 l0_1 a0_2 a0_3 a0_4 a0_5 a0_6 a0_7 a0_8 a0_9 a0_10 a0_11 l0_12) else (busbarref12_Check.j1 kj1 (decide (a0_8 > 5000)) l0_0 l0_1 a0_2 a0_3 a0_4 a0_5 a0_6 a0_7 a0_8 a0_9 a0_10 a0_11 l0_12)))))) = some r := by rw [if_neg (show ¬ (false = true) by decide)] at H; exact H
    clear H
    have H := H1
    clear H1
    have HC16 := Aside0.mk H
    clear H
    go_upto_region 3 with (fail)
    go_cut [34] (fun v34 wc => ∃ (kq : Nat) (x34_15 : Bool), v34 = .bool x34_15 ∧ Aside0 (busbarref12_Check.j1 kq x34_15 l0_0 l0_1 a0_2 a0_3 a0_4 a0_5 a0_6 a0_7 a0_8 a0_9 a0_10 a0_11 l0_12 = some r) ∧ Aside0 (kq ≤ kj1) ∧ Aside0 (wc.heap[gb485]? = some (.cells #[(.slice A0_0 l0_0.length c0_0), (.slice A0_1 l0_1.length c0_1), .int .i64 a0_2, .int .i64 a0_3, .int .i64 a0_4, .int .i64 a0_5, .int .i64 a0_6, .int .i64 a0_7, .int .i64 a0_8, .int .i64 a0_9, .int .i64 a0_10, .int .u64 a0_11, (.slice A0_12 l0_12.length c0_12)] 27 (0, 0))) ∧ Aside0 (Below w.heap.size w wc))
    case first =>
     have H := HC16.out
     clear HC16
     by_cases c17 : a0_6 < 0
     ·
      rw [if_pos c17] at H
      have c17b0 : decide (a0_6 < 0) = true := decide_eq_true c17
      clear c17
      (first | rw [c17b0] | (simp only [i64_w, i32_w]; rw [c17b0]) | skip)
      have H' := Aside0.mk H
      clear H
      obtain ⟨hcz18_0, hcz18_1, hcz18_2, hcz18_3, hcz18_4, hcz18_5, hcz18_6, hcz18_7, hcz18_8, hcz18_9, hcz18_10, hcz18_11, hcz18_12⟩ := blkc13 BK485.out
      obtain ⟨hfz18_0, hfz18_1, hfz18_2, hfz18_3, hfz18_4, hfz18_5, hfz18_6, hfz18_7, hfz18_8, hfz18_9, hfz18_10, hfz18_11, hfz18_12⟩ := blkf13 BK485.out
      go_wp2
      go_meet
      case rel => exact ⟨_, (true), (by first | rfl | (simp; done) | (simp [*]; done)), H', ⟨by have := HJ1.out; first | omega | exact Nat.le_refl _⟩, ⟨BK485.out⟩, ⟨HB.out⟩⟩
     ·
      rw [if_neg c17] at H
      have c17b0 : decide (a0_6 < 0) = false := decide_eq_false c17
      clear c17
      (first | rw [c17b0] | (simp only [i64_w, i32_w]; rw [c17b0]) | skip)
      by_cases c19 : a0_6 > 1048576
      ·
       rw [if_pos c19] at H
       have c19b0 : decide (1048576 < a0_6) = true := decide_eq_true c19
       clear c19
       have H' := Aside0.mk H
       clear H
       obtain ⟨hcz20_0, hcz20_1, hcz20_2, hcz20_3, hcz20_4, hcz20_5, hcz20_6, hcz20_7, hcz20_8, hcz20_9, hcz20_10, hcz20_11, hcz20_12⟩ := blkc13 BK485.out
       obtain ⟨hfz20_0, hfz20_1, hfz20_2, hfz20_3, hfz20_4, hfz20_5, hfz20_6, hfz20_7, hfz20_8, hfz20_9, hfz20_10, hfz20_11, hfz20_12⟩ := blkf13 BK485.out
       go_wp2
       go_meet
       case rel => exact ⟨_, (true), (by first | rfl | (simp; done) | (simp [*]; done)), H', ⟨by have := HJ1.out; first | omega | exact Nat.le_refl _⟩, ⟨BK485.out⟩, ⟨HB.out⟩⟩
      ·
       rw [if_neg c19] at H
       have c19b0 : decide (1048576 < a0_6) = false := decide_eq_false c19
       clear c19
       by_cases c21 : a0_7 < 1
       ·
        rw [if_pos c21] at H
        have c21b0 : decide (a0_7 < 1) = true := decide_eq_true c21
        clear c21
        have H' := Aside0.mk H
        clear H
        obtain ⟨hcz22_0, hcz22_1, hcz22_2, hcz22_3, hcz22_4, hcz22_5, hcz22_6, hcz22_7, hcz22_8, hcz22_9, hcz22_10, hcz22_11, hcz22_12⟩ := blkc13 BK485.out
        obtain ⟨hfz22_0, hfz22_1, hfz22_2, hfz22_3, hfz22_4, hfz22_5, hfz22_6, hfz22_7, hfz22_8, hfz22_9, hfz22_10, hfz22_11, hfz22_12⟩ := blkf13 BK485.out
        go_wp2
        go_meet
        case rel => exact ⟨_, (true), (by first | rfl | (simp; done) | (simp [*]; done)), H', ⟨by have := HJ1.out; first | omega | exact Nat.le_refl _⟩, ⟨BK485.out⟩, ⟨HB.out⟩⟩
       ·
        rw [if_neg c21] at H
        have c21b0 : decide (a0_7 < 1) = false := decide_eq_false c21
        clear c21
        by_cases c23 : a0_7 > 1000
        ·
         rw [if_pos c23] at H
         have c23b0 : decide (1000 < a0_7) = true := decide_eq_true c23
         clear c23
         have H' := Aside0.mk H
         clear H
         obtain ⟨hcz24_0, hcz24_1, hcz24_2, hcz24_3, hcz24_4, hcz24_5, hcz24_6, hcz24_7, hcz24_8, hcz24_9, hcz24_10, hcz24_11, hcz24_12⟩ := blkc13 BK485.out
         obtain ⟨hfz24_0, hfz24_1, hfz24_2, hfz24_3, hfz24_4, hfz24_5, hfz24_6, hfz24_7, hfz24_8, hfz24_9, hfz24_10, hfz24_11, hfz24_12⟩ := blkf13 BK485.out
         go_wp2
         go_meet
         case rel => exact ⟨_, (true), (by first | rfl | (simp; done) | (simp [*]; done)), H', ⟨by have := HJ1.out; first | omega | exact Nat.le_refl _⟩, ⟨BK485.out⟩, ⟨HB.out⟩⟩
        ·
         rw [if_neg c23] at H
         have c23b0 : decide (1000 < a0_7) = false := decide_eq_false c23
         clear c23
         by_cases c25 : a0_8 < 1
         ·
          rw [if_pos c25] at H
          have c25b0 : decide (a0_8 < 1) = true := decide_eq_true c25
          clear c25
          have H' := Aside0.mk H
          clear H
          obtain ⟨hcz26_0, hcz26_1, hcz26_2, hcz26_3, hcz26_4, hcz26_5, hcz26_6, hcz26_7, hcz26_8, hcz26_9, hcz26_10, hcz26_11, hcz26_12⟩ := blkc13 BK485.out
          obtain ⟨hfz26_0, hfz26_1, hfz26_2, hfz26_3, hfz26_4, hfz26_5, hfz26_6, hfz26_7, hfz26_8, hfz26_9, hfz26_10, hfz26_11, hfz26_12⟩ := blkf13 BK485.out
          go_wp2
          go_meet
          case rel => exact ⟨_, (true), (by first | rfl | (simp; done) | (simp [*]; done)), H', ⟨by have := HJ1.out; first | omega | exact Nat.le_refl _⟩, ⟨BK485.out⟩, ⟨HB.out⟩⟩
         ·
          rw [if_neg c25] at H
          have c25b0 : decide (a0_8 < 1) = false := decide_eq_false c25
          clear c25
          have H' := Aside0.mk H
          clear H
          obtain ⟨hcz27_0, hcz27_1, hcz27_2, hcz27_3, hcz27_4, hcz27_5, hcz27_6, hcz27_7, hcz27_8, hcz27_9, hcz27_10, hcz27_11, hcz27_12⟩ := blkc13 BK485.out
          obtain ⟨hfz27_0, hfz27_1, hfz27_2, hfz27_3, hfz27_4, hfz27_5, hfz27_6, hfz27_7, hfz27_8, hfz27_9, hfz27_10, hfz27_11, hfz27_12⟩ := blkf13 BK485.out
          go_wp2
          go_meet
          case rel => exact ⟨_, (decide (a0_8 > 5000)), (by first | rfl | (simp; done) | (simp [*]; done)), H', ⟨by have := HJ1.out; first | omega | exact Nat.le_refl _⟩, ⟨BK485.out⟩, ⟨HB.out⟩⟩
    case rest =>
     clear HC16
     (try clear c15)
     obtain ⟨kq, x34_15, rfl, HA, HJ15, BK485, HB⟩ := hcut
     cases kq with
     | zero => exact absurd HA.out (by simp [busbarref12_Check.j1])
     | succ kj15 =>
      have H := HA.out
      clear HA
      simp only [busbarref12_Check.j1] at H
      by_cases c28 : x34_15 = true
      ·
       subst c28
       have H1 : (some 1) = some r := by rw [if_pos rfl] at H; exact H
       clear H
       have H := H1
       clear H1
       obtain rfl := Option.some.inj H
       go_wp2
       go_ret
       exact ⟨by first | rfl | (simp [errW_none, errW_some] <;> rfl) | (simp [*, errW_none, errW_some] <;> rfl), HB.out⟩
      ·
       replace c28 := Bool.eq_false_iff.mpr c28
       subst c28
       have H1 : (if a0_9 < 260 then (some 1) else (if a0_9 > 65536 then (some 1) else (if a0_10 < 260 then (some 1) else (if a0_10 > 65536 then (some 1) else ((busbarref12_Plan.f kj15 l0_0 a0_2).bind fun t486 => (if t486 = 0 then ((busbarref12_Groups.f kj15 l0_1 l0_0).bind fun t487 => (if t487 = 0 then ((busbarref5_Objects.f kj15 l0_12).bind fun t488 => (some t488)) else (some t487))) else (some t486))))))) = some r := by rw [if_neg (show ¬ (false = true) by decide)] at H; exact H
       clear H
       have H := H1
       clear H1
       by_cases c29 : a0_9 < 260
       ·
        rw [if_pos c29] at H
        have c29b0 : decide (a0_9 < 260) = true := decide_eq_true c29
        clear c29
        obtain rfl := Option.some.inj H
        obtain ⟨hcz30_0, hcz30_1, hcz30_2, hcz30_3, hcz30_4, hcz30_5, hcz30_6, hcz30_7, hcz30_8, hcz30_9, hcz30_10, hcz30_11, hcz30_12⟩ := blkc13 BK485.out
        obtain ⟨hfz30_0, hfz30_1, hfz30_2, hfz30_3, hfz30_4, hfz30_5, hfz30_6, hfz30_7, hfz30_8, hfz30_9, hfz30_10, hfz30_11, hfz30_12⟩ := blkf13 BK485.out
        go_wp2
        go_ret
        exact ⟨by first | rfl | (simp [errW_none, errW_some] <;> rfl) | (simp [*, errW_none, errW_some] <;> rfl), HB.out⟩
       ·
        rw [if_neg c29] at H
        have c29b0 : decide (a0_9 < 260) = false := decide_eq_false c29
        clear c29
        by_cases c31 : a0_9 > 65536
        ·
         rw [if_pos c31] at H
         have c31b0 : decide (65536 < a0_9) = true := decide_eq_true c31
         clear c31
         obtain rfl := Option.some.inj H
         obtain ⟨hcz32_0, hcz32_1, hcz32_2, hcz32_3, hcz32_4, hcz32_5, hcz32_6, hcz32_7, hcz32_8, hcz32_9, hcz32_10, hcz32_11, hcz32_12⟩ := blkc13 BK485.out
         obtain ⟨hfz32_0, hfz32_1, hfz32_2, hfz32_3, hfz32_4, hfz32_5, hfz32_6, hfz32_7, hfz32_8, hfz32_9, hfz32_10, hfz32_11, hfz32_12⟩ := blkf13 BK485.out
         go_wp2
         go_ret
         exact ⟨by first | rfl | (simp [errW_none, errW_some] <;> rfl) | (simp [*, errW_none, errW_some] <;> rfl), HB.out⟩
        ·
         rw [if_neg c31] at H
         have c31b0 : decide (65536 < a0_9) = false := decide_eq_false c31
         clear c31
         by_cases c33 : a0_10 < 260
         ·
          rw [if_pos c33] at H
          have c33b0 : decide (a0_10 < 260) = true := decide_eq_true c33
          clear c33
          obtain rfl := Option.some.inj H
          obtain ⟨hcz34_0, hcz34_1, hcz34_2, hcz34_3, hcz34_4, hcz34_5, hcz34_6, hcz34_7, hcz34_8, hcz34_9, hcz34_10, hcz34_11, hcz34_12⟩ := blkc13 BK485.out
          obtain ⟨hfz34_0, hfz34_1, hfz34_2, hfz34_3, hfz34_4, hfz34_5, hfz34_6, hfz34_7, hfz34_8, hfz34_9, hfz34_10, hfz34_11, hfz34_12⟩ := blkf13 BK485.out
          go_wp2
          go_ret
          exact ⟨by first | rfl | (simp [errW_none, errW_some] <;> rfl) | (simp [*, errW_none, errW_some] <;> rfl), HB.out⟩
         ·
          rw [if_neg c33] at H
          have c33b0 : decide (a0_10 < 260) = false := decide_eq_false c33
          clear c33
          by_cases c35 : a0_10 > 65536
          ·
           rw [if_pos c35] at H
           have c35b0 : decide (65536 < a0_10) = true := decide_eq_true c35
           clear c35
           obtain rfl := Option.some.inj H
           obtain ⟨hcz36_0, hcz36_1, hcz36_2, hcz36_3, hcz36_4, hcz36_5, hcz36_6, hcz36_7, hcz36_8, hcz36_9, hcz36_10, hcz36_11, hcz36_12⟩ := blkc13 BK485.out
           obtain ⟨hfz36_0, hfz36_1, hfz36_2, hfz36_3, hfz36_4, hfz36_5, hfz36_6, hfz36_7, hfz36_8, hfz36_9, hfz36_10, hfz36_11, hfz36_12⟩ := blkf13 BK485.out
           go_wp2
           go_ret
           exact ⟨by first | rfl | (simp [errW_none, errW_some] <;> rfl) | (simp [*, errW_none, errW_some] <;> rfl), HB.out⟩
          ·
           rw [if_neg c35] at H
           have c35b0 : decide (65536 < a0_10) = false := decide_eq_false c35
           clear c35
           replace H := Option.bind_eq_some_iff.mp H
           obtain ⟨t486, A370, H⟩ := H
           have A37 := Aside0.mk A370
           clear A370
           by_cases c38 : t486 = 0
           ·
            rw [if_pos c38] at H
            have c38b0 : (t486 == 0) = true := beq_iff_eq.mpr c38
            have c38b1 : (t486 != 0) = false := bne_eq_false_iff_eq.mpr c38
            clear c38
            replace H := Option.bind_eq_some_iff.mp H
            obtain ⟨t487, A390, H⟩ := H
            have A39 := Aside0.mk A390
            clear A390
            by_cases c40 : t487 = 0
            ·
             rw [if_pos c40] at H
             have c40b0 : (t487 == 0) = true := beq_iff_eq.mpr c40
             have c40b1 : (t487 != 0) = false := bne_eq_false_iff_eq.mpr c40
             clear c40
             replace H := Option.bind_eq_some_iff.mp H
             obtain ⟨t488, A410, H⟩ := H
             have A41 := Aside0.mk A410
             clear A410
             obtain rfl := Option.some.inj H
             obtain ⟨hcz42_0, hcz42_1, hcz42_2, hcz42_3, hcz42_4, hcz42_5, hcz42_6, hcz42_7, hcz42_8, hcz42_9, hcz42_10, hcz42_11, hcz42_12⟩ := blkc13 BK485.out
             obtain ⟨hfz42_0, hfz42_1, hfz42_2, hfz42_3, hfz42_4, hfz42_5, hfz42_6, hfz42_7, hfz42_8, hfz42_9, hfz42_10, hfz42_11, hfz42_12⟩ := blkf13 BK485.out
             go_wp2_with (first | ((with_reducible refine gate_callee (f := 23) rfl ?_); refine goesL_ (some 86) rfl rfl Try.func23 (by kernel_rfl) rfl #[.slice A0_0 l0_0.length c0_0, .int .i64 a0_2] rfl (by (try simp only [List.map_toArray, List.map_cons, List.map_nil]); first | done | rfl | (simp only [List.length_drop, List.length_take]; rfl)) ?_; (with_reducible refine (busbarref12_Plan.calls kj15 _ _ l0_0 a0_2 t486 _ ?side1 ?side2 A37.out).mono ?_); (case side1 => repeat (first | exact (Kd.C_below HR0_0.out HB.out) | (with_reducible refine Kd.C_alloc ?_ _) | (with_reducible refine Kd.C_drewN ?_ _) | (with_reducible refine Kd.C_drew ?_))); (case side2 => exact HC0_0.out); rintro e w43 ⟨rfl, hb⟩; refine ⟨_, rfl, ?_⟩; replace BK485 := Aside0.mk (blk_below BK485.out hb); replace HB := Aside0.mk (below_step (HB.out) hb); (try clear hb); obtain ⟨hcz44_0, hcz44_1, hcz44_2, hcz44_3, hcz44_4, hcz44_5, hcz44_6, hcz44_7, hcz44_8, hcz44_9, hcz44_10, hcz44_11, hcz44_12⟩ := blkc13 BK485.out; obtain ⟨hfz44_0, hfz44_1, hfz44_2, hfz44_3, hfz44_4, hfz44_5, hfz44_6, hfz44_7, hfz44_8, hfz44_9, hfz44_10, hfz44_11, hfz44_12⟩ := blkf13 BK485.out) | ((with_reducible refine gate_callee (f := 24) rfl ?_); refine goesL_ (some 94) rfl rfl Try.func24 (by kernel_rfl) rfl #[.slice A0_1 l0_1.length c0_1, .slice A0_0 l0_0.length c0_0] rfl (by (try simp only [List.map_toArray, List.map_cons, List.map_nil]); first | done | rfl | (simp only [List.length_drop, List.length_take]; rfl)) ?_; (with_reducible refine (busbarref12_Groups.calls kj15 _ _ l0_1 _ _ l0_0 t487 _ ?side1 ?side2 ?side3 ?side4 A39.out).mono ?_); (case side1 => repeat (first | exact (Kd.C_below HR0_1.out HB.out) | (with_reducible refine Kd.C_alloc ?_ _) | (with_reducible refine Kd.C_drewN ?_ _) | (with_reducible refine Kd.C_drew ?_))); (case side2 => exact HC0_1.out); (case side3 => repeat (first | exact (Kd.C_below HR0_0.out HB.out) | (with_reducible refine Kd.C_alloc ?_ _) | (with_reducible refine Kd.C_drewN ?_ _) | (with_reducible refine Kd.C_drew ?_))); (case side4 => exact HC0_0.out); rintro e w45 ⟨rfl, hb⟩; refine ⟨_, rfl, ?_⟩; replace BK485 := Aside0.mk (blk_below BK485.out hb); replace HB := Aside0.mk (below_step (HB.out) hb); (try clear hb); obtain ⟨hcz46_0, hcz46_1, hcz46_2, hcz46_3, hcz46_4, hcz46_5, hcz46_6, hcz46_7, hcz46_8, hcz46_9, hcz46_10, hcz46_11, hcz46_12⟩ := blkc13 BK485.out; obtain ⟨hfz46_0, hfz46_1, hfz46_2, hfz46_3, hfz46_4, hfz46_5, hfz46_6, hfz46_7, hfz46_8, hfz46_9, hfz46_10, hfz46_11, hfz46_12⟩ := blkf13 BK485.out) | ((with_reducible refine gate_callee (f := 25) rfl ?_); refine goesL_ (some 100) rfl rfl Try.func25 (by kernel_rfl) rfl #[.slice A0_12 l0_12.length c0_12] rfl (by (try simp only [List.map_toArray, List.map_cons, List.map_nil]); first | done | rfl | (simp only [List.length_drop, List.length_take]; rfl)) ?_; (with_reducible refine (busbarref5_Objects.calls kj15 _ _ l0_12 t488 _ ?side1 ?side2 A41.out).mono ?_); (case side1 => repeat (first | exact (Kd.C_below HR0_12.out HB.out) | (with_reducible refine Kd.C_alloc ?_ _) | (with_reducible refine Kd.C_drewN ?_ _) | (with_reducible refine Kd.C_drew ?_))); (case side2 => exact HC0_12.out); rintro e w' ⟨rfl, ⟨nd, rfl⟩⟩; refine ⟨_, rfl, ?_⟩))
             go_ret
             exact ⟨by first | rfl | (simp [errW_none, errW_some] <;> rfl) | (simp [*, errW_none, errW_some] <;> rfl), by repeat (first | (with_reducible first | exact HB.out | apply below_alloc | apply pw_below_drewN | apply below_drew1 | refine below_set ?_ GE485.out) | exact HB.out)⟩
            ·
             rw [if_neg c40] at H
             have c40b0 : (t487 == 0) = false := beq_eq_false_iff_ne.mpr c40
             have c40b1 : (t487 != 0) = true := bne_iff_ne.mpr c40
             obtain rfl := Option.some.inj H
             obtain ⟨hcz47_0, hcz47_1, hcz47_2, hcz47_3, hcz47_4, hcz47_5, hcz47_6, hcz47_7, hcz47_8, hcz47_9, hcz47_10, hcz47_11, hcz47_12⟩ := blkc13 BK485.out
             obtain ⟨hfz47_0, hfz47_1, hfz47_2, hfz47_3, hfz47_4, hfz47_5, hfz47_6, hfz47_7, hfz47_8, hfz47_9, hfz47_10, hfz47_11, hfz47_12⟩ := blkf13 BK485.out
             go_wp2_with (first | ((with_reducible refine gate_callee (f := 23) rfl ?_); refine goesL_ (some 86) rfl rfl Try.func23 (by kernel_rfl) rfl #[.slice A0_0 l0_0.length c0_0, .int .i64 a0_2] rfl (by (try simp only [List.map_toArray, List.map_cons, List.map_nil]); first | done | rfl | (simp only [List.length_drop, List.length_take]; rfl)) ?_; (with_reducible refine (busbarref12_Plan.calls kj15 _ _ l0_0 a0_2 t486 _ ?side1 ?side2 A37.out).mono ?_); (case side1 => repeat (first | exact (Kd.C_below HR0_0.out HB.out) | (with_reducible refine Kd.C_alloc ?_ _) | (with_reducible refine Kd.C_drewN ?_ _) | (with_reducible refine Kd.C_drew ?_))); (case side2 => exact HC0_0.out); rintro e w48 ⟨rfl, hb⟩; refine ⟨_, rfl, ?_⟩; replace BK485 := Aside0.mk (blk_below BK485.out hb); replace HB := Aside0.mk (below_step (HB.out) hb); (try clear hb); obtain ⟨hcz49_0, hcz49_1, hcz49_2, hcz49_3, hcz49_4, hcz49_5, hcz49_6, hcz49_7, hcz49_8, hcz49_9, hcz49_10, hcz49_11, hcz49_12⟩ := blkc13 BK485.out; obtain ⟨hfz49_0, hfz49_1, hfz49_2, hfz49_3, hfz49_4, hfz49_5, hfz49_6, hfz49_7, hfz49_8, hfz49_9, hfz49_10, hfz49_11, hfz49_12⟩ := blkf13 BK485.out) | ((with_reducible refine gate_callee (f := 24) rfl ?_); refine goesL_ (some 94) rfl rfl Try.func24 (by kernel_rfl) rfl #[.slice A0_1 l0_1.length c0_1, .slice A0_0 l0_0.length c0_0] rfl (by (try simp only [List.map_toArray, List.map_cons, List.map_nil]); first | done | rfl | (simp only [List.length_drop, List.length_take]; rfl)) ?_; (with_reducible refine (busbarref12_Groups.calls kj15 _ _ l0_1 _ _ l0_0 t487 _ ?side1 ?side2 ?side3 ?side4 A39.out).mono ?_); (case side1 => repeat (first | exact (Kd.C_below HR0_1.out HB.out) | (with_reducible refine Kd.C_alloc ?_ _) | (with_reducible refine Kd.C_drewN ?_ _) | (with_reducible refine Kd.C_drew ?_))); (case side2 => exact HC0_1.out); (case side3 => repeat (first | exact (Kd.C_below HR0_0.out HB.out) | (with_reducible refine Kd.C_alloc ?_ _) | (with_reducible refine Kd.C_drewN ?_ _) | (with_reducible refine Kd.C_drew ?_))); (case side4 => exact HC0_0.out); rintro e w50 ⟨rfl, hb⟩; refine ⟨_, rfl, ?_⟩; replace BK485 := Aside0.mk (blk_below BK485.out hb); replace HB := Aside0.mk (below_step (HB.out) hb); (try clear hb); (try clear hi)))
             go_ret
             exact ⟨by first | rfl | (simp [errW_none, errW_some] <;> rfl) | (simp [*, errW_none, errW_some] <;> rfl), HB.out⟩
           ·
            rw [if_neg c38] at H
            have c38b0 : (t486 == 0) = false := beq_eq_false_iff_ne.mpr c38
            have c38b1 : (t486 != 0) = true := bne_iff_ne.mpr c38
            obtain rfl := Option.some.inj H
            obtain ⟨hcz51_0, hcz51_1, hcz51_2, hcz51_3, hcz51_4, hcz51_5, hcz51_6, hcz51_7, hcz51_8, hcz51_9, hcz51_10, hcz51_11, hcz51_12⟩ := blkc13 BK485.out
            obtain ⟨hfz51_0, hfz51_1, hfz51_2, hfz51_3, hfz51_4, hfz51_5, hfz51_6, hfz51_7, hfz51_8, hfz51_9, hfz51_10, hfz51_11, hfz51_12⟩ := blkf13 BK485.out
            go_wp2_with (first | ((with_reducible refine gate_callee (f := 23) rfl ?_); refine goesL_ (some 86) rfl rfl Try.func23 (by kernel_rfl) rfl #[.slice A0_0 l0_0.length c0_0, .int .i64 a0_2] rfl (by (try simp only [List.map_toArray, List.map_cons, List.map_nil]); first | done | rfl | (simp only [List.length_drop, List.length_take]; rfl)) ?_; (with_reducible refine (busbarref12_Plan.calls kj15 _ _ l0_0 a0_2 t486 _ ?side1 ?side2 A37.out).mono ?_); (case side1 => repeat (first | exact (Kd.C_below HR0_0.out HB.out) | (with_reducible refine Kd.C_alloc ?_ _) | (with_reducible refine Kd.C_drewN ?_ _) | (with_reducible refine Kd.C_drew ?_))); (case side2 => exact HC0_0.out); rintro e w52 ⟨rfl, hb⟩; refine ⟨_, rfl, ?_⟩; replace BK485 := Aside0.mk (blk_below BK485.out hb); replace HB := Aside0.mk (below_step (HB.out) hb); (try clear hb); (try clear hi)))
            go_ret
            exact ⟨by first | rfl | (simp [errW_none, errW_some] <;> rfl) | (simp [*, errW_none, errW_some] <;> rfl), HB.out⟩
end Go.Proofs.Ytjlbgopgeepiaaa.PConf
namespace Go.Proofs.Ytjlbgopgeepiaaa.PConf
open Go.RowKit Go.Proofs.YtjlbgopgeepiaaaW.PrintWords Go.Proofs.YtjlbgopgeepiaaaW.PrintLast Go.Proofs.YtjlbgopgeepiaaaW.PrintMore
attribute [local go_sem] max2_int min2_int max_two min_two max_three min_three max_four min_four plus_setCell_drewN plus_cell_same   -- for this text's walks alone
set_option linter.unusedVariables false
set_option linter.unusedSimpArgs false
mutual
def busbarlaw7_Objects.l0 : Nat → List Int → List (S50) → Int → Int → Option ((List (S50)))
 | 0, _, _, _, _ => none
 | k + 1, x0, x3, x4, x5 => if x5 < (x0.length : Int) then (busbarlaw7_Objects.j1 k x0 x3 x4 x5 (decide (x5 < 40))) else (busbarlaw7_Objects.j1 k x0 x3 x4 x5 false)
def busbarlaw7_Objects.j1 : Nat → List Int → List (S50) → Int → Int → Bool → Option ((List (S50)))
 | 0, _, _, _, _, _ => none
 | k + 1, x0, x3, x4, x5, x19 => if x19 = true then (if 0 ≤ x5 then (if x5 < (x0.length : Int) then ((busbarlaw0_Within.f (rd x0 x5) 12).bind fun t499 => (if (wrap64 ((wrap64 (x4 + 1)) + t499)) > 255 then (if (x0.length : Int) > 0 then (if 0 < (x0.length : Int) then ((busbarlaw0_Digit.f (rd x0 0) 2940 245).bind fun t501 => (if 0 ≤ t501 then (if (t501 : Int).toNat ≤ 281474976710656 then (if 1 < (x3.length : Int) then (some (x3.set (1 : Int).toNat (⟨(rd_T50 x3 1).f0, strOfNums (List.replicate (t501 : Int).toNat 0)⟩ : S50))) else (none)) else (none)) else (none))) else (none)) else (some x3)) else ((busbarlaw0_Digit.f (rd x0 x5) 12 245).bind fun t507 => (if 0 ≤ t507 then (if (t507 : Int).toNat ≤ 281474976710656 then (busbarlaw7_Objects.l1 k x0 x3 (wrap64 ((wrap64 (x4 + 1)) + t499)) x5 (List.replicate (t507 : Int).toNat 0) 0) else (none)) else (none))))) else (none)) else (none)) else (if (x0.length : Int) > 0 then (if 0 < (x0.length : Int) then ((busbarlaw0_Digit.f (rd x0 0) 2940 245).bind fun t493 => (if 0 ≤ t493 then (if (t493 : Int).toNat ≤ 281474976710656 then (if 1 < (x3.length : Int) then (some (x3.set (1 : Int).toNat (⟨(rd_T50 x3 1).f0, strOfNums (List.replicate (t493 : Int).toNat 0)⟩ : S50))) else (none)) else (none)) else (none))) else (none)) else (some x3))
def busbarlaw7_Objects.l1 : Nat → List Int → List (S50) → Int → Int → List Int → Int → Option ((List (S50)))
 | 0, _, _, _, _, _, _ => none
 | k + 1, x0, x3, x4, x5, x6, x7 => if x7 < (x6.length : Int) then (if 0 ≤ x7 then (busbarlaw7_Objects.l1 k x0 x3 x4 x5 (x6.set (x7 : Int).toNat ((wrap64 (97 + (Int.tmod x7 26))) % 256)) (wrap64 (x7 + 1))) else (none)) else (if x3.length < 5864062014805 then (busbarlaw7_Objects.l0 k x0 (x3 ++ [(⟨x4, strOfNums x6⟩ : S50)]) x4 (wrap64 (x5 + 1))) else (none))
end
def busbarlaw7_Objects.f (k : Nat) (l0 : List Int) : Option ((List (S50))) := busbarlaw7_Objects.l0 k l0 (([(⟨0, (⟨#[98, 117, 115, 98, 97, 114]⟩ : ByteArray)⟩ : S50), (⟨1, (⟨#[]⟩ : ByteArray)⟩ : S50), (⟨2, (⟨#[49]⟩ : ByteArray)⟩ : S50)] : List (S50))) 2 0
theorem busbarlaw7_Objects.mono_l : ∀ k, (∀ y0 y1 y2 y3, LeO (busbarlaw7_Objects.l0 k y0 y1 y2 y3) (busbarlaw7_Objects.l0 (k + 1) y0 y1 y2 y3)) ∧ (∀ y0 y1 y2 y3 y4, LeO (busbarlaw7_Objects.j1 k y0 y1 y2 y3 y4) (busbarlaw7_Objects.j1 (k + 1) y0 y1 y2 y3 y4)) ∧ (∀ y0 y1 y2 y3 y4 y5, LeO (busbarlaw7_Objects.l1 k y0 y1 y2 y3 y4 y5) (busbarlaw7_Objects.l1 (k + 1) y0 y1 y2 y3 y4 y5))
 | 0 => ⟨fun _ _ _ _ r h => by simp [busbarlaw7_Objects.l0] at h, fun _ _ _ _ _ r h => by simp [busbarlaw7_Objects.j1] at h, fun _ _ _ _ _ _ r h => by simp [busbarlaw7_Objects.l1] at h⟩
 | k + 1 => by
  obtain ⟨ih0, ih1, ih2⟩ := busbarlaw7_Objects.mono_l k
  refine ⟨?_, ?_, ?_⟩
  ·
   intro y0 y1 y2 y3
   unfold busbarlaw7_Objects.l0
   repeat' first
   | (with_reducible exact ih0 _ _ _ _)
   | (with_reducible exact ih1 _ _ _ _ _)
   | (with_reducible exact ih2 _ _ _ _ _ _)
   | (with_reducible exact LeO.refl _)
   | (with_reducible exact LeO.none _)
   | (with_reducible refine LeO.ite ?_ ?_)
   | (with_reducible refine LeO.bind ?_ (fun _ => ?_))
   | exact ih0 _ _ _ _
   | exact ih1 _ _ _ _ _
   | exact ih2 _ _ _ _ _ _
   | exact LeO.none _
   | refine LeO.ite ?_ ?_
   | refine LeO.bind ?_ (fun _ => ?_)
  ·
   intro y0 y1 y2 y3 y4
   unfold busbarlaw7_Objects.j1
   repeat' first
   | (with_reducible exact ih0 _ _ _ _)
   | (with_reducible exact ih1 _ _ _ _ _)
   | (with_reducible exact ih2 _ _ _ _ _ _)
   | (with_reducible exact LeO.refl _)
   | (with_reducible exact LeO.none _)
   | (with_reducible refine LeO.ite ?_ ?_)
   | (with_reducible refine LeO.bind ?_ (fun _ => ?_))
   | exact ih0 _ _ _ _
   | exact ih1 _ _ _ _ _
   | exact ih2 _ _ _ _ _ _
   | exact LeO.none _
   | refine LeO.ite ?_ ?_
   | refine LeO.bind ?_ (fun _ => ?_)
  ·
   intro y0 y1 y2 y3 y4 y5
   unfold busbarlaw7_Objects.l1
   repeat' first
   | (with_reducible exact ih0 _ _ _ _)
   | (with_reducible exact ih1 _ _ _ _ _)
   | (with_reducible exact ih2 _ _ _ _ _ _)
   | (with_reducible exact LeO.refl _)
   | (with_reducible exact LeO.none _)
   | (with_reducible refine LeO.ite ?_ ?_)
   | (with_reducible refine LeO.bind ?_ (fun _ => ?_))
   | exact ih0 _ _ _ _
   | exact ih1 _ _ _ _ _
   | exact ih2 _ _ _ _ _ _
   | exact LeO.none _
   | refine LeO.ite ?_ ?_
   | refine LeO.bind ?_ (fun _ => ?_)
theorem busbarlaw7_Objects.mono : ∀ a0 k, LeO (busbarlaw7_Objects.f k a0) (busbarlaw7_Objects.f (k + 1) a0) := by
 intro a0 k
 obtain ⟨ih0, ih1, ih2⟩ := busbarlaw7_Objects.mono_l k
 unfold busbarlaw7_Objects.f
 repeat' first
   | (with_reducible exact ih0 _ _ _ _)
   | (with_reducible exact ih1 _ _ _ _ _)
   | (with_reducible exact ih2 _ _ _ _ _ _)
   | (with_reducible exact LeO.refl _)
   | (with_reducible exact LeO.none _)
   | (with_reducible refine LeO.ite ?_ ?_)
   | (with_reducible refine LeO.bind ?_ (fun _ => ?_))
   | exact ih0 _ _ _ _
   | exact ih1 _ _ _ _ _
   | exact ih2 _ _ _ _ _ _
   | exact LeO.none _
   | refine LeO.ite ?_ ?_
   | refine LeO.bind ?_ (fun _ => ?_)
set_option maxHeartbeats 8000000 in
set_option maxRecDepth 100000 in
theorem busbarlaw7_Objects.calls (k : Nat) (A0 : Option Addr) (c0 : Nat) (l0 : List Int) (r : List (S50)) (w : World) (hr0 : Kd.C (Kd.int .i64) w A0 l0.length l0) (hc0 : l0.length ≤ c0) (h : busbarlaw7_Objects.f k l0 = some r) :
  Calls Try.prog 11 #[.slice A0 l0.length c0] w fun e w' => ∃ v0_ : Value, e = .returned (v0_) ∧ Kd.R k50 50 w' w.heap.size (fun _ => True) v0_ r ∧ Below w.heap.size w w' := by
 have hu50 := Try.underlying50
 have HR0 := Aside0.mk hr0
 have HC0 := Aside0.mk hc0
 clear hr0 hc0
 have HB := Aside0.mk (Below.refl w.heap.size w)
 have H : (busbarlaw7_Objects.l0 k l0 (([(⟨0, (⟨#[98, 117, 115, 98, 97, 114]⟩ : ByteArray)⟩ : S50), (⟨1, (⟨#[]⟩ : ByteArray)⟩ : S50), (⟨2, (⟨#[49]⟩ : ByteArray)⟩ : S50)] : List (S50))) 2 0) = some r := h
 clear h
 obtain ⟨y489, hy489⟩ : ∃ y_ : List (S50), y_ = (([(⟨0, (⟨#[98, 117, 115, 98, 97, 114]⟩ : ByteArray)⟩ : S50), (⟨1, (⟨#[]⟩ : ByteArray)⟩ : S50), (⟨2, (⟨#[49]⟩ : ByteArray)⟩ : S50)] : List (S50))) := ⟨_, rfl⟩
 replace H : (busbarlaw7_Objects.l0 k l0 y489 2 0) = some r := by first | (rw [hy489]; with_reducible exact H) | (have H2_ := (Option.bind_some _ _).symm.trans H; rw [hy489]; with_reducible exact H2_) | (have H2_ := (Option.bind_some _ _).symm.trans H; with_reducible exact H2_) | with_reducible exact H | (rw [hy489]; exact H) | exact H
 have Ny489 := Aside0.mk hy489
 clear hy489
 have H' := Aside0.mk H
 clear H
 go_enter Try.func11, Try.ntmps11
 go_wp2_with (first | ((with_reducible refine gate_dst (N := 11) rfl ?_); refine Kd.R_lit k50 _ 50 ?hg (N := 11) ?hd (xs := ([(⟨0, (⟨#[98, 117, 115, 98, 97, 114]⟩ : ByteArray)⟩ : S50), (⟨1, (⟨#[]⟩ : ByteArray)⟩ : S50), (⟨2, (⟨#[49]⟩ : ByteArray)⟩ : S50)] : List (S50))) (inner := [.int .i64 0, .string (⟨#[98, 117, 115, 98, 97, 114]⟩ : ByteArray), .int .i64 1, .string (⟨#[]⟩ : ByteArray), .int .i64 2, .string (⟨#[49]⟩ : ByteArray)]) (ok := fun _ => True) (okp := fun _ => True) ?hr ?hp (fun _ hk => hk) trivial (Below.refl _ _) (Nat.le_refl _) (by simp) ?_; (case hd => rfl); (case hg => rfl); (case hr => first | (go_simp; done) | (go_simp; rfl)); (case hp => exact (Reps.c2 (show Kd.M k50 _ _ _ (⟨0, (⟨#[98, 117, 115, 98, 97, 114]⟩ : ByteArray)⟩ : S50) [.int .i64 0, .string (⟨#[98, 117, 115, 98, 97, 114]⟩ : ByteArray)] from (k50_mkM _ _ _ (⟨0, (⟨#[98, 117, 115, 98, 97, 114]⟩ : ByteArray)⟩ : S50) )) (Reps.c2 (show Kd.M k50 _ _ _ (⟨1, (⟨#[]⟩ : ByteArray)⟩ : S50) [.int .i64 1, .string (⟨#[]⟩ : ByteArray)] from (k50_mkM _ _ _ (⟨1, (⟨#[]⟩ : ByteArray)⟩ : S50) )) (Reps.c2 (show Kd.M k50 _ _ _ (⟨2, (⟨#[49]⟩ : ByteArray)⟩ : S50) [.int .i64 2, .string (⟨#[49]⟩ : ByteArray)] from (k50_mkM _ _ _ (⟨2, (⟨#[49]⟩ : ByteArray)⟩ : S50) )) (Reps.none _ _))))); intro v490 w2 ho3 hb hg_ hnew_; clear hg_ hnew_; (first | rw [← Ny489.out] at ho3 | (simp only [Int.reduceToNat] at ho3; rw [← Ny489.out] at ho3)); have HO491 := Aside0.mk (Kd.R_lower ho3 (below_size (HB.out))); replace HB := Aside0.mk (below_step (HB.out) hb); clear hb ho3))
 go_loopg [3, 4, 5] k (fun kq v3 v4 v5 w' => ∃ (x3_1 : List (S50)) (x4_1 : Int) (x5_1 : Int), v4 = .int .i64 x4_1 ∧ v5 = .int .i64 x5_1 ∧ Aside0 (busbarlaw7_Objects.l0 kq l0 x3_1 x4_1 x5_1 = some r) ∧ Aside0 (kq ≤ k) ∧ Aside0 (Kd.R k50 50 w' w.heap.size (fun _ => True) v3 x3_1) ∧ Aside0 (Below w.heap.size w w'))
 case atStart => exact ⟨(y489), (2), (0), (by first | rfl | (simp; done) | (simp [*]; done)), (by first | rfl | (simp; done) | (simp [*]; done)), H', ⟨Nat.le_refl _⟩, ⟨HO491.out⟩, ⟨HB.out⟩⟩
 case round =>
  clear H'
  (try clear c2)
  obtain ⟨x3_1, x4_1, x5_1, rfl, rfl, HA, HK1, HO_3, HB⟩ := hrel
  cases gk with
  | zero => exact absurd HA.out (by simp [busbarlaw7_Objects.l0])
  | succ k1 =>
   have H := HA.out
   clear HA
   simp only [busbarlaw7_Objects.l0] at H
   have HC4 := Aside0.mk H
   clear H
   go_upto_region 4 with (fail)
   go_cut [19] (fun v19 wc => ∃ (kq : Nat) (x19_3 : Bool), v19 = .bool x19_3 ∧ Aside0 (busbarlaw7_Objects.j1 kq l0 x3_1 x4_1 x5_1 x19_3 = some r) ∧ Aside0 (kq ≤ k1) ∧ Aside0 (Kd.R k50 50 wc w.heap.size (fun _ => True) u3 x3_1) ∧ Aside0 (Below w.heap.size w wc))
   case first =>
    have H := HC4.out
    clear HC4
    by_cases c5 : x5_1 < (l0.length : Int)
    ·
     rw [if_pos c5] at H
     have c5b0 : decide (x5_1 < (l0.length : Int)) = true := decide_eq_true c5
     clear c5
     (first | rw [c5b0] | (simp only [i64_w, i32_w]; rw [c5b0]) | skip)
     have H' := Aside0.mk H
     clear H
     go_wp2
     go_meet
     case rel => exact ⟨_, (decide (x5_1 < 40)), (by first | rfl | (simp; done) | (simp [*]; done)), H', ⟨by have := HK1.out; first | omega | exact Nat.le_refl _⟩, ⟨HO_3.out⟩, ⟨HB.out⟩⟩
    ·
     rw [if_neg c5] at H
     have c5b0 : decide (x5_1 < (l0.length : Int)) = false := decide_eq_false c5
     clear c5
     (first | rw [c5b0] | (simp only [i64_w, i32_w]; rw [c5b0]) | skip)
     have H' := Aside0.mk H
     clear H
     go_wp2
     go_meet
     case rel => exact ⟨_, (false), (by first | rfl | (simp; done) | (simp [*]; done)), H', ⟨by have := HK1.out; first | omega | exact Nat.le_refl _⟩, ⟨HO_3.out⟩, ⟨HB.out⟩⟩
   case rest =>
    clear HC4
    (try clear c2)
    obtain ⟨kq, x19_3, rfl, HA, HJ3, HO_3, HB⟩ := hcut
    cases kq with
    | zero => exact absurd HA.out (by simp [busbarlaw7_Objects.j1])
    | succ kj3 =>
     have H := HA.out
     clear HA
     simp only [busbarlaw7_Objects.j1] at H
     by_cases c6 : x19_3 = true
     ·
      subst c6
      have H1 : (if 0 ≤ x5_1 then (if x5_1 < (l0.length : Int) then ((busbarlaw0_Within.f (rd l0 x5_1) 12).bind fun t499 => (if (wrap64 ((wrap64 (x4_1 + 1)) + t499)) > 255 then (if (l0.length : Int) > 0 then (if 0 < (l0.length : Int) then ((busbarlaw0_Digit.f (rd l0 0) 2940 245).bind fun t501 => (if 0 ≤ t501 then (if (t501 : Int).toNat ≤ 281474976710656 then (if 1 < (x3_1.length : Int) then (some (x3_1.set (1 : Int).toNat (⟨(rd_T50 x3_1 1).f0, strOfNums (List.replicate (t501 : Int).toNat 0)⟩ : S50))) else (none)) else (none)) else (none))) else (none)) else (some x3_1)) else ((busbarlaw0_Digit.f (rd l0 x5_1) 12 245).bind fun t507 => (if 0 ≤ t507 then (if (t507 : Int).toNat ≤ 281474976710656 then (busbarlaw7_Objects.l1 kj3 l0 x3_1 (wrap64 ((wrap64 (x4_1 + 1)) + t499)) x5_1 (List.replicate (t507 : Int).toNat 0) 0) else (none)) else (none))))) else (none)) else (none)) = some r := by rw [if_pos rfl] at H; exact H
      clear H
      have H := H1
      clear H1
      by_cases c7 : 0 ≤ x5_1
      ·
       rw [if_pos c7] at H
       have c7b0 : decide (0 ≤ x5_1) = true := decide_eq_true c7
       clear c7
       by_cases c8 : x5_1 < (l0.length : Int)
       ·
        rw [if_pos c8] at H
        have c8b0 : decide (x5_1 < (l0.length : Int)) = true := decide_eq_true c8
        clear c8
        replace H := Option.bind_eq_some_iff.mp H
        obtain ⟨t499, A90, H⟩ := H
        have A9 := Aside0.mk A90
        clear A90
        by_cases c10 : (wrap64 ((wrap64 (x4_1 + 1)) + t499)) > 255
        ·
         rw [if_pos c10] at H
         have c10b0 : decide (255 < (wrap64 ((wrap64 (x4_1 + 1)) + t499))) = true := decide_eq_true c10
         clear c10
         by_cases c11 : (l0.length : Int) > 0
         ·
          rw [if_pos c11] at H
          have c11b0 : decide (0 < (l0.length : Int)) = true := decide_eq_true c11
          have c11b1 : decide (0 < l0.length) = true := decide_eq_true (by omega)
          clear c11
          by_cases c12 : 0 < (l0.length : Int)
          ·
           rw [if_pos c12] at H
           have c12b0 : decide (0 < (l0.length : Int)) = true := decide_eq_true c12
           have c12b1 : decide (0 < l0.length) = true := decide_eq_true (by omega)
           clear c12
           replace H := Option.bind_eq_some_iff.mp H
           obtain ⟨t501, A130, H⟩ := H
           have A13 := Aside0.mk A130
           clear A130
           by_cases c14 : 0 ≤ t501
           ·
            rw [if_pos c14] at H
            have c14b0 := eq_true c14
            have c14b1 : decide (0 ≤ t501) = true := decide_eq_true c14
            clear c14
            by_cases c15 : (t501 : Int).toNat ≤ 281474976710656
            ·
             rw [if_pos c15] at H
             have c15b0 := eq_true c15
             have c15b1 : decide ((t501 : Int).toNat ≤ 281474976710656) = true := decide_eq_true c15
             clear c15
             obtain ⟨y502, hy502⟩ : ∃ y_ : List Int, y_ = (List.replicate (t501 : Int).toNat 0) := ⟨_, rfl⟩
             replace H : (if 1 < (x3_1.length : Int) then (some (x3_1.set (1 : Int).toNat (⟨(rd_T50 x3_1 1).f0, strOfNums y502⟩ : S50))) else (none)) = some r := by first | (rw [hy502]; with_reducible exact H) | (have H2_ := (Option.bind_some _ _).symm.trans H; rw [hy502]; with_reducible exact H2_) | (have H2_ := (Option.bind_some _ _).symm.trans H; with_reducible exact H2_) | with_reducible exact H | (rw [hy502]; exact H) | exact H
             have Ny502 := Aside0.mk hy502
             clear hy502
             by_cases c16 : 1 < (x3_1.length : Int)
             ·
              rw [if_pos c16] at H
              have c16b0 : decide (1 < (x3_1.length : Int)) = true := decide_eq_true c16
              have c16b1 : decide (1 < x3_1.length) = true := decide_eq_true (by omega)
              clear c16
              obtain ⟨y505, hy505⟩ : ∃ y_ : List (S50), y_ = (x3_1.set (1 : Int).toNat (⟨(rd_T50 x3_1 1).f0, strOfNums y502⟩ : S50)) := ⟨_, rfl⟩
              replace H : (some y505) = some r := by first | (rw [hy505]; with_reducible exact H) | (have H2_ := (Option.bind_some _ _).symm.trans H; rw [hy505]; with_reducible exact H2_) | (have H2_ := (Option.bind_some _ _).symm.trans H; with_reducible exact H2_) | with_reducible exact H | (rw [hy505]; exact H) | exact H
              have Ny505 := Aside0.mk hy505
              clear hy505
              obtain rfl := Option.some.inj H
              have p498 : 0 ≤ (x5_1 : Int) := of_decide_eq_true (by first | (with_reducible assumption) | assumption)
              have q498 : x5_1 < (l0.length : Int) := of_decide_eq_true (by first | (with_reducible assumption) | assumption)
              obtain ⟨ad498, e498, hx498_0⟩ := Kd.at_int HR0.out x5_1 p498 q498
              cases e498
              replace hx498_0 := (HB.out.cell (World.block_lt_of_cell? w _ hx498_0)).trans hx498_0
              replace p498 := eq_true p498
              replace q498 := eq_true q498
              go_wp2_with (first | ((with_reducible refine gate_callee (f := 12) rfl ?_); refine goesL_ (some 28) rfl rfl Try.func12 (by kernel_rfl) rfl #[.int .i64 (rd l0 x5_1), .int .i64 12] rfl (by (try simp only [List.map_toArray, List.map_cons, List.map_nil]); first | done | rfl | (simp only [List.length_drop, List.length_take]; rfl)) ?_; (with_reducible refine (busbarlaw0_Within.calls (rd l0 x5_1) 12 t499 _ A9.out).mono ?_); rintro e w' ⟨rfl, ⟨nd, rfl⟩⟩; refine ⟨_, rfl, ?_⟩; (try (rw [drewN_self wc]; generalize hq_ : World.drewN wc _ = wc; replace HO_3 := Kd.dqR HO_3 hq_; replace HB := dqB HB hq_; clear hq_)); have p500 : 0 ≤ (0 : Int) := (by omega); have q500 : 0 < (l0.length : Int) := of_decide_eq_true (by first | (with_reducible assumption) | assumption); obtain ⟨ad500, e500, hx500_0⟩ := Kd.at_int HR0.out 0 p500 q500; obtain rfl : ad498 = ad500 := (by injection e500); have qi500 : (0 < l0.length) = True := eq_true (by omega); (try rw [show ((0 : Int)).toNat = 0 from rfl] at hx500_0); (try rw [Addr.add_zero'] at hx500_0); replace hx500_0 := (HB.out.cell (World.block_lt_of_cell? w _ hx500_0)).trans hx500_0; replace p500 := eq_true p500; replace q500 := eq_true q500) | ((with_reducible refine gate_callee (f := 27) rfl ?_); refine goesL_ (some 65) rfl rfl Try.func27 (by kernel_rfl) rfl #[.int .i64 (rd l0 0), .int .i64 2940, .int .i64 245] rfl (by (try simp only [List.map_toArray, List.map_cons, List.map_nil]); first | done | rfl | (simp only [List.length_drop, List.length_take]; rfl)) ?_; (with_reducible refine (busbarlaw0_Digit.calls (rd l0 0) 2940 245 t501 _ A13.out).mono ?_); rintro e w' ⟨rfl, ⟨nd, rfl⟩⟩; refine ⟨_, rfl, ?_⟩; (try (rw [drewN_self wc]; generalize hq_ : World.drewN wc _ = wc; replace HO_3 := Kd.dqR HO_3 hq_; replace HB := dqB HB hq_; clear hq_))) | ((with_reducible refine gate_dst (N := 66) rfl ?_); refine Kd.R_make (Kd.int .u8) _ 5 rfl (N := 66) rfl 58 _ _ rfl t501 rfl rfl Try.underlying58 (.int .u8 0) 1 info5 rfl (by decide) (by omega) 0 (ok := fun _ => True) (okp := fun _ => True) rfl (fun _ hk => hk) trivial (of_decide_eq_true (by first | (with_reducible assumption) | assumption)) (Nat.le_trans (Nat.mul_le_mul_right _ (of_decide_eq_true (by first | (with_reducible assumption) | assumption) : t501.toNat ≤ 281474976710656)) (by omega)) (Below.refl _ _) (Nat.le_refl _) ?_; intro v503 w18 ho19 hb hg_ hnew_; clear hg_ hnew_; (first | rw [← Ny502.out] at ho19 | (simp only [Int.reduceToNat] at ho19; rw [← Ny502.out] at ho19)); replace HO_3 := Aside0.mk (Kd.R_below (HO_3.out) hb); have HO504 := Aside0.mk (Kd.R_lower ho19 (below_size (HB.out))); replace HB := Aside0.mk (below_step (HB.out) hb); clear hb ho19; have hcv20 := own_string (P := Try.prog) Try.underlying58 Try.underlying5 Try.underlying9 (Kd.own_of_R (h1 := fun _ => rfl) HO504.out); have p17 : 0 ≤ (1 : Int) := (by omega); have q17 : (1 : Int) < ((x3_1.length : Int) : Int) := of_decide_eq_true (by first | (with_reducible assumption) | assumption); have qi17 : (1 < x3_1.length) = True := eq_true (by omega); obtain ⟨go17, co17, eo17, gb17, gl17, cl17, HG17⟩ := Kd.R_form HO_3.out (by omega); (first | cases eo17 | (injection eo17 with ea_ en_ ec_; (first | subst ea_ | (injection ea_ with ea_; subst ea_)); subst ec_; clear en_)); have GB17 := Aside0.mk gb17; have GG17 := Aside0.mk HG17; clear gb17 gl17 HG17; obtain ⟨ce17, hcl17, hM17, hcc17, hfr17⟩ := Kd.R_elem HO_3.out z50 (1 : Int) p17 q17; obtain rfl := k50_openM hM17; have hx17_0 : w18.cell? ⟨go17, (1 : Int).toNat * 2, none⟩ = some (.int .i64 ((rd_T50 x3_1 1).f0)) := hcc17 0 _ rfl; have hx17_1 : w18.cell? ⟨go17, (1 : Int).toNat * 2 + 1, none⟩ = some (.string ((rd_T50 x3_1 1).f1)) := hcc17 1 _ rfl; have hf17_0 : w18.frozen? ⟨go17, (1 : Int).toNat * 2, none⟩ = false := hfr17 0; have hf17_1 : w18.frozen? ⟨go17, (1 : Int).toNat * 2 + 1, none⟩ = false := hfr17 1; clear hcl17 hcc17 hfr17 hM17; (try rw [show ((1 : Int)).toNat = 1 from rfl] at hx17_0); (try simp only [Nat.reduceMul, Nat.zero_mul, Nat.zero_add, Nat.reduceAdd] at hx17_0); (try rw [show ((1 : Int)).toNat = 1 from rfl] at hf17_0); (try simp only [Nat.reduceMul, Nat.zero_mul, Nat.zero_add, Nat.reduceAdd] at hf17_0); (try rw [show ((1 : Int)).toNat = 1 from rfl] at hx17_1); (try simp only [Nat.reduceMul, Nat.zero_mul, Nat.zero_add, Nat.reduceAdd] at hx17_1); (try rw [show ((1 : Int)).toNat = 1 from rfl] at hf17_1); (try simp only [Nat.reduceMul, Nat.zero_mul, Nat.zero_add, Nat.reduceAdd] at hf17_1); replace p17 := eq_true p17; replace q17 := eq_true q17; have HX21 := Aside0.mk (show Kd.R k50 50 w18 w.heap.size (fun _ => True) (.slice (some ⟨go17, 0, none⟩) x3_1.length co17) x3_1 from (HO_3.out)); obtain ⟨ce21, hcl21, hM21, hcc21, hfr21⟩ := Kd.R_elem HX21.out z50 (1 : Int) (by omega) (by have h_ : (1 : Int) < ((x3_1.length : Int) : Int) := of_decide_eq_true (by first | (with_reducible assumption) | assumption); first | exact h_ | (have e_ := (Kd.R_reads' HO_3.out).1; omega) | simpa using h_); obtain rfl := k50_openM hM21; have HP21 := Kd.R_seg HX21.out (1 : Int) (by omega) (by have h_ : (1 : Int) < ((x3_1.length : Int) : Int) := of_decide_eq_true (by first | (with_reducible assumption) | assumption); first | exact h_ | (have e_ := (Kd.R_reads' HO_3.out).1; omega) | simpa using h_) (seg := [.string (strOfNums y502)]) (j := 1) hcl21 hcc21 (show 2 ≤ 2 from by decide) (x' := (⟨(rd_T50 x3_1 1).f0, strOfNums y502⟩ : S50)) (k50_mkM _ _ _ (⟨(rd_T50 x3_1 1).f0, strOfNums y502⟩ : S50) ) (fun _ hk => hk); have hx21_1 := hcc21 1 _ rfl; (try simp only [show (k50).sz = 2 from rfl, Nat.mul_one, Nat.add_zero] at hx21_1); (try rw [show ((1 : Int)).toNat = 1 from rfl] at hx21_1); (try simp only [Nat.reduceMul, Nat.zero_mul, Nat.zero_add, Nat.reduceAdd] at hx21_1); have hf21_1 := hfr21 1; (try simp only [show (k50).sz = 2 from rfl, Nat.mul_one, Nat.add_zero] at hf21_1); (try rw [show ((1 : Int)).toNat = 1 from rfl] at hf21_1); (try simp only [Nat.reduceMul, Nat.zero_mul, Nat.zero_add, Nat.reduceAdd] at hf21_1); clear hcl21 hcc21 hfr21 hM21) | ((with_reducible refine gate_store (t := 9) (p := 69) rfl ?_); refine store_event (t := 9) (p := 69) (v := ?vo_w22) (w1 := (w18.setCell ⟨go17, 3, none⟩ (.string (strOfNums y502)))) ?hg ?ho ?hn ?hr ?_; (case ho => rfl); (case hg => rfl); (case hn => rfl); (case hr => first | (go_simp; done) | (go_simp; rfl)); intro w22 hw; have hg : w18.grownBy w22 (some go17) := (by rw [hw]; exact HP21.2); have hp_ : Kd.R k50 50 w22 w.heap.size (fun _ => True) (.slice (some ⟨go17, 0, none⟩) x3_1.length co17) y505 := (by rw [hw, Ny505.out]; exact HP21.1); clear HP21; replace HO504 := Aside0.mk (Kd.R_over' (v := (.slice (some ⟨go17, 0, none⟩) x3_1.length co17)) (HO504.out) (Kd.R_typed HO_3.out) (by decide) hg); replace HO_3 := Aside0.mk (hp_); replace HB := Aside0.mk ((by rw [hw]; exact below_set (HB.out) GB17.out : Below w.heap.size w w22)); clear hg hw hp_))
              go_ret
              exact ⟨_, by first | rfl | (simp [errW_none, errW_some] <;> rfl) | (simp [*, errW_none, errW_some] <;> rfl), by (with_reducible repeat (first | apply Kd.R_alloc | apply Kd.R_drewN | apply Kd.R_drew)); exact HO_3.out, HB.out⟩
             ·
              rw [if_neg c16] at H
              exact absurd H (by simp)
            ·
             rw [if_neg c15] at H
             exact absurd H (by simp)
           ·
            rw [if_neg c14] at H
            exact absurd H (by simp)
          ·
           rw [if_neg c12] at H
           exact absurd H (by simp)
         ·
          rw [if_neg c11] at H
          have c11b0 : decide (0 < (l0.length : Int)) = false := decide_eq_false c11
          have c11b1 : decide (0 < l0.length) = false := decide_eq_false (by omega)
          clear c11
          obtain rfl := Option.some.inj H
          have p498 : 0 ≤ (x5_1 : Int) := of_decide_eq_true (by first | (with_reducible assumption) | assumption)
          have q498 : x5_1 < (l0.length : Int) := of_decide_eq_true (by first | (with_reducible assumption) | assumption)
          obtain ⟨ad498, e498, hx498_0⟩ := Kd.at_int HR0.out x5_1 p498 q498
          cases e498
          replace hx498_0 := (HB.out.cell (World.block_lt_of_cell? w _ hx498_0)).trans hx498_0
          replace p498 := eq_true p498
          replace q498 := eq_true q498
          go_wp2_with (first | ((with_reducible refine gate_callee (f := 12) rfl ?_); refine goesL_ (some 28) rfl rfl Try.func12 (by kernel_rfl) rfl #[.int .i64 (rd l0 x5_1), .int .i64 12] rfl (by (try simp only [List.map_toArray, List.map_cons, List.map_nil]); first | done | rfl | (simp only [List.length_drop, List.length_take]; rfl)) ?_; (with_reducible refine (busbarlaw0_Within.calls (rd l0 x5_1) 12 t499 _ A9.out).mono ?_); rintro e w' ⟨rfl, ⟨nd, rfl⟩⟩; refine ⟨_, rfl, ?_⟩))
          go_ret
          exact ⟨_, by first | rfl | (simp [errW_none, errW_some] <;> rfl) | (simp [*, errW_none, errW_some] <;> rfl), by (with_reducible repeat (first | apply Kd.R_alloc | apply Kd.R_drewN | apply Kd.R_drew)); exact HO_3.out, by repeat (first | (with_reducible first | exact HB.out | apply below_alloc | apply pw_below_drewN | apply below_drew1) | exact HB.out)⟩
        ·
         rw [if_neg c10] at H
         have c10b0 : decide (255 < (wrap64 ((wrap64 (x4_1 + 1)) + t499))) = false := decide_eq_false c10
         clear c10
         replace H := Option.bind_eq_some_iff.mp H
         obtain ⟨t507, A230, H⟩ := H
         have A23 := Aside0.mk A230
         clear A230
         by_cases c24 : 0 ≤ t507
         ·
          rw [if_pos c24] at H
          have c24b0 := eq_true c24
          have c24b1 : decide (0 ≤ t507) = true := decide_eq_true c24
          clear c24
          by_cases c25 : (t507 : Int).toNat ≤ 281474976710656
          ·
           rw [if_pos c25] at H
           have c25b0 := eq_true c25
           have c25b1 : decide ((t507 : Int).toNat ≤ 281474976710656) = true := decide_eq_true c25
           clear c25
           obtain ⟨y508, hy508⟩ : ∃ y_ : List Int, y_ = (List.replicate (t507 : Int).toNat 0) := ⟨_, rfl⟩
           replace H : (busbarlaw7_Objects.l1 kj3 l0 x3_1 (wrap64 ((wrap64 (x4_1 + 1)) + t499)) x5_1 y508 0) = some r := by first | (rw [hy508]; with_reducible exact H) | (have H2_ := (Option.bind_some _ _).symm.trans H; rw [hy508]; with_reducible exact H2_) | (have H2_ := (Option.bind_some _ _).symm.trans H; with_reducible exact H2_) | with_reducible exact H | (rw [hy508]; exact H) | exact H
           have Ny508 := Aside0.mk hy508
           clear hy508
           have H' := Aside0.mk H
           clear H
           have p498 : 0 ≤ (x5_1 : Int) := of_decide_eq_true (by first | (with_reducible assumption) | assumption)
           have q498 : x5_1 < (l0.length : Int) := of_decide_eq_true (by first | (with_reducible assumption) | assumption)
           obtain ⟨ad498, e498, hx498_0⟩ := Kd.at_int HR0.out x5_1 p498 q498
           cases e498
           replace hx498_0 := (HB.out.cell (World.block_lt_of_cell? w _ hx498_0)).trans hx498_0
           replace p498 := eq_true p498
           replace q498 := eq_true q498
           go_wp2_with (first | ((with_reducible refine gate_callee (f := 12) rfl ?_); refine goesL_ (some 28) rfl rfl Try.func12 (by kernel_rfl) rfl #[.int .i64 (rd l0 x5_1), .int .i64 12] rfl (by (try simp only [List.map_toArray, List.map_cons, List.map_nil]); first | done | rfl | (simp only [List.length_drop, List.length_take]; rfl)) ?_; (with_reducible refine (busbarlaw0_Within.calls (rd l0 x5_1) 12 t499 _ A9.out).mono ?_); rintro e w' ⟨rfl, ⟨nd, rfl⟩⟩; refine ⟨_, rfl, ?_⟩; have p506 : 0 ≤ (x5_1 : Int) := of_decide_eq_true (by first | (with_reducible assumption) | assumption); have q506 : x5_1 < (l0.length : Int) := of_decide_eq_true (by first | (with_reducible assumption) | assumption); obtain ⟨ad506, e506, hx506_0⟩ := Kd.at_int HR0.out x5_1 p506 q506; obtain rfl : ad498 = ad506 := (by injection e506); replace hx506_0 := (HB.out.cell (World.block_lt_of_cell? w _ hx506_0)).trans hx506_0; replace p506 := eq_true p506; replace q506 := eq_true q506) | ((with_reducible refine gate_callee (f := 27) rfl ?_); refine goesL_ (some 36) rfl rfl Try.func27 (by kernel_rfl) rfl #[.int .i64 (rd l0 x5_1), .int .i64 12, .int .i64 245] rfl (by (try simp only [List.map_toArray, List.map_cons, List.map_nil]); first | done | rfl | (simp only [List.length_drop, List.length_take]; rfl)) ?_; (with_reducible refine (busbarlaw0_Digit.calls (rd l0 x5_1) 12 245 t507 _ A23.out).mono ?_); rintro e w' ⟨rfl, ⟨nd, rfl⟩⟩; refine ⟨_, rfl, ?_⟩) | ((with_reducible refine gate_dst (N := 37) rfl ?_); refine Kd.R_make (Kd.int .u8) _ 5 rfl (N := 37) rfl 58 _ _ rfl t507 rfl rfl Try.underlying58 (.int .u8 0) 1 info5 rfl (by decide) (by omega) 0 (ok := fun _ => True) (okp := fun _ => True) rfl (fun _ hk => hk) trivial (of_decide_eq_true (by first | (with_reducible assumption) | assumption)) (Nat.le_trans (Nat.mul_le_mul_right _ (of_decide_eq_true (by first | (with_reducible assumption) | assumption) : t507.toNat ≤ 281474976710656)) (by omega)) (Below.refl _ _) (Nat.le_refl _) ?_; intro v509 w26 ho27 hb hg_ hnew_; clear hg_ hnew_; (first | rw [← Ny508.out] at ho27 | (simp only [Int.reduceToNat] at ho27; rw [← Ny508.out] at ho27)); replace HO_3 := Aside0.mk (Kd.R_below (by (with_reducible repeat (first | apply Kd.R_alloc | apply Kd.R_drewN | apply Kd.R_drew)); exact HO_3.out) hb); have HO510 := Aside0.mk (Kd.R_lower ho27 (below_size (by repeat (first | (with_reducible first | exact HB.out | apply below_alloc | apply pw_below_drewN | apply below_drew1) | exact HB.out)))); replace HB := Aside0.mk (below_step (by repeat (first | (with_reducible first | exact HB.out | apply below_alloc | apply pw_below_drewN | apply below_drew1) | exact HB.out)) hb); clear hb ho27))
           go_loopg [7] kj3 (fun kq v7 w' => ∃ (x6_3 : List Int) (x7_3 : Int), v7 = .int .i64 x7_3 ∧ Aside0 (busbarlaw7_Objects.l1 kq l0 x3_1 (wrap64 ((wrap64 (x4_1 + 1)) + t499)) x5_1 x6_3 x7_3 = some r) ∧ Aside0 (kq ≤ kj3) ∧ Aside0 (Kd.R k50 50 w' w.heap.size (fun _ => True) u3 x3_1) ∧ Aside0 (Kd.R (Kd.int .u8) 5 w' w.heap.size (fun _ => True) v509 x6_3) ∧ Aside0 (Below w.heap.size w w'))
           case atStart => exact ⟨(y508), (0), (by first | rfl | (simp; done) | (simp [*]; done)), H', ⟨Nat.le_refl _⟩, ⟨HO_3.out⟩, ⟨HO510.out⟩, ⟨HB.out⟩⟩
           case round =>
            clear H'
            (try clear c7b0); (try clear c8b0); (try clear c10b0); (try clear c24b0); (try clear c24b1); (try clear c25b0); (try clear c25b1); (try clear hx498_0); (try clear hx506_0); (try clear p498); (try clear p506); (try clear q498); (try clear q506)
            obtain ⟨x6_3, x7_3, rfl, HA, HK3, HO_3, HO_6, HB⟩ := hrel
            cases gk with
            | zero => exact absurd HA.out (by simp [busbarlaw7_Objects.l1])
            | succ k3 =>
             have H := HA.out
             clear HA
             simp only [busbarlaw7_Objects.l1] at H
             by_cases c28 : x7_3 < (x6_3.length : Int)
             ·
              rw [if_pos c28] at H
              have c28b0 : decide (x7_3 < (x6_3.length : Int)) = true := decide_eq_true c28
              clear c28
              by_cases c29 : 0 ≤ x7_3
              ·
               rw [if_pos c29] at H
               have c29b0 : decide (0 ≤ x7_3) = true := decide_eq_true c29
               clear c29
               obtain ⟨y511, hy511⟩ : ∃ y_ : List Int, y_ = (x6_3.set (x7_3 : Int).toNat ((wrap64 (97 + (Int.tmod x7_3 26))) % 256)) := ⟨_, rfl⟩
               replace H : (busbarlaw7_Objects.l1 k3 l0 x3_1 (wrap64 ((wrap64 (x4_1 + 1)) + t499)) x5_1 y511 (wrap64 (x7_3 + 1))) = some r := by first | (rw [hy511]; with_reducible exact H) | (have H2_ := (Option.bind_some _ _).symm.trans H; rw [hy511]; with_reducible exact H2_) | (have H2_ := (Option.bind_some _ _).symm.trans H; with_reducible exact H2_) | with_reducible exact H | (rw [hy511]; exact H) | exact H
               have Ny511 := Aside0.mk hy511
               clear hy511
               have H' := Aside0.mk H
               clear H
               obtain ⟨Ao31, co31, eo31⟩ := Kd.R_slice HO_6.out
               subst eo31
               have p30 : 0 ≤ (x7_3 : Int) := of_decide_eq_true (by first | (with_reducible assumption) | assumption)
               have q30 : (x7_3 : Int) < ((x6_3.length : Int) : Int) := of_decide_eq_true (by first | (with_reducible assumption) | assumption)
               obtain ⟨go30, co30, eo30, gb30, gl30, cl30, HG30⟩ := Kd.R_form HO_6.out (by omega)
               (first | cases eo30 | (injection eo30 with ea_ en_ ec_; (first | subst ea_ | (injection ea_ with ea_; subst ea_)); subst ec_; clear en_))
               have GB30 := Aside0.mk gb30
               have GG30 := Aside0.mk HG30
               clear gb30 gl30 HG30
               obtain ⟨hx30_0, hf30_0⟩ := Kd.R_celln 0 HO_6.out (x7_3 : Int) p30 q30
               replace p30 := eq_true p30
               replace q30 := eq_true q30
               have HP32 := Kd.R_putg HO_6.out (x7_3 : Int) ((wrap64 (97 + (Int.tmod x7_3 26))) % 256)
               go_wp2_with (first | ((with_reducible refine gate_store (t := 5) (p := 50) rfl ?_); refine store_event (t := 5) (p := 50) (v := ?vo_w33) (w1 := (wr.setCell ⟨go30, (x7_3 : Int).toNat, none⟩ (.int .u8 ((wrap64 (97 + (Int.tmod x7_3 26))) % 256)))) ?hg ?ho ?hn ?hr ?_; (case ho => rfl); (case hg => rfl); (case hn => rfl); (case hr => first | (go_simp; done) | (go_simp; rfl)); intro w33 hw; have hg : wr.grownBy w33 (some go30) := (by rw [hw]; exact HP32.2); have hp_ : Kd.R (Kd.int .u8) 5 w33 w.heap.size (fun _ => True) (.slice (some ⟨go30, 0, none⟩) x6_3.length co31) y511 := (by rw [hw, Ny511.out]; exact HP32.1); clear HP32; replace HO_3 := Aside0.mk (Kd.R_over' (v := (.slice (some ⟨go30, 0, none⟩) x6_3.length co31)) (HO_3.out) (Kd.R_typed HO_6.out) (by decide) hg); replace HO_6 := Aside0.mk (hp_); replace HB := Aside0.mk ((by rw [hw]; exact below_set (HB.out) GB30.out : Below w.heap.size w w33)); clear hg hw hp_))
               go_roundg k3
               case measure => have := HK1.out; have := HJ3.out; have := HK3.out; omega
               case rel => exact ⟨(y511), (wrap64 (x7_3 + 1)), (by first | rfl | (simp; done) | (simp [*]; done)), H', ⟨by have := HK1.out; have := HJ3.out; have := HK3.out; omega⟩, ⟨HO_3.out⟩, ⟨HO_6.out⟩, ⟨HB.out⟩⟩
              ·
               rw [if_neg c29] at H
               exact absurd H (by simp)
             ·
              rw [if_neg c28] at H
              have c28b0 : decide (x7_3 < (x6_3.length : Int)) = false := decide_eq_false c28
              clear c28
              by_cases c34 : x3_1.length < 5864062014805
              ·
               rw [if_pos c34] at H
               have LMc34 := Aside0.mk c34
               clear c34
               obtain ⟨y512, hy512⟩ : ∃ y_ : List (S50), y_ = (x3_1 ++ [(⟨(wrap64 ((wrap64 (x4_1 + 1)) + t499)), strOfNums x6_3⟩ : S50)]) := ⟨_, rfl⟩
               replace H : (busbarlaw7_Objects.l0 k3 l0 y512 (wrap64 ((wrap64 (x4_1 + 1)) + t499)) (wrap64 (x5_1 + 1))) = some r := by first | (rw [hy512]; with_reducible exact H) | (have H2_ := (Option.bind_some _ _).symm.trans H; rw [hy512]; with_reducible exact H2_) | (have H2_ := (Option.bind_some _ _).symm.trans H; with_reducible exact H2_) | with_reducible exact H | (rw [hy512]; exact H) | exact H
               have Ny512 := Aside0.mk hy512
               clear hy512
               have H' := Aside0.mk H
               clear H
               obtain ⟨Ao35, co35, eo35⟩ := Kd.R_slice HO_6.out
               subst eo35
               have hcv36 := own_string (P := Try.prog) Try.underlying58 Try.underlying5 Try.underlying9 (Kd.own_of_R (h1 := fun _ => rfl) HO_6.out)
               go_wp2_with (first | ((with_reducible refine gate_builtin (b := .append) (xs := #[.tmp 51, .tmp 56]) rfl ?_); at_builtin; refine Kd.R_append k50 (w0 := w) w.heap.size rfl (.tmp 51) (.tmp 56) 25 50 (.agg #[(.int .i64 0), (.string ⟨#[]⟩)]) 24 rfl Try.underlying25 info50 rfl (by decide) (by omega) u3 x3_1 (⟨(wrap64 ((wrap64 (x4_1 + 1)) + t499)), strOfNums x6_3⟩ : S50) [.int .i64 (wrap64 ((wrap64 (x4_1 + 1)) + t499)), .string (strOfNums x6_3)] (fun _ => True) (fun _ => False) rfl rfl ?aP (fun _ hk => hk.elim) ?aF ?aO ?aB ?aS ?aL ?_; (case aP => exact k50_mkM _ _ _ (⟨(wrap64 ((wrap64 (x4_1 + 1)) + t499)), strOfNums x6_3⟩ : S50)); (case aB => exact (HB.out)); (case aF => exact (fun _ _ => trivial)); (case aO => exact (HO_3.out)); (case aS => exact (below_size (HB.out))); (case aL => have := LMc34.out; omega); intro v513 w37 ho hb hg hat; rw [← Ny512.out] at ho; replace HO_6 := Aside0.mk (Kd.R_over' (HO_6.out) (Kd.R_typed (HO_3.out)) (by decide) hg); replace HB := Aside0.mk (hb); have HO514 := Aside0.mk (ho); clear HO_3; clear ho hb hg hat))
               go_roundg k3
               case measure => have := HK1.out; have := HJ3.out; have := HK3.out; omega
               case rel => exact ⟨(y512), ((wrap64 ((wrap64 (x4_1 + 1)) + t499))), (wrap64 (x5_1 + 1)), (by first | rfl | (simp; done) | (simp [*]; done)), (by first | rfl | (simp; done) | (simp [*]; done)), H', ⟨by have := HK1.out; have := HJ3.out; have := HK3.out; omega⟩, ⟨HO514.out⟩, ⟨HB.out⟩⟩
              ·
               rw [if_neg c34] at H
               exact absurd H (by simp)
          ·
           rw [if_neg c25] at H
           exact absurd H (by simp)
         ·
          rw [if_neg c24] at H
          exact absurd H (by simp)
       ·
        rw [if_neg c8] at H
        exact absurd H (by simp)
      ·
       rw [if_neg c7] at H
       exact absurd H (by simp)
     ·
      replace c6 := Bool.eq_false_iff.mpr c6
      subst c6
      have H1 : (if (l0.length : Int) > 0 then (if 0 < (l0.length : Int) then ((busbarlaw0_Digit.f (rd l0 0) 2940 245).bind fun t493 => (if 0 ≤ t493 then (if (t493 : Int).toNat ≤ 281474976710656 then (if 1 < (x3_1.length : Int) then (some (x3_1.set (1 : Int).toNat (⟨(rd_T50 x3_1 1).f0, strOfNums (List.replicate (t493 : Int).toNat 0)⟩ : S50))) else (none)) else (none)) else (none))) else (none)) else (some x3_1)) = some r := by rw [if_neg (show ¬ (false = true) by decide)] at H; exact H
      clear H
      have H := H1
      clear H1
      by_cases c38 : (l0.length : Int) > 0
      ·
       rw [if_pos c38] at H
       have c38b0 : decide (0 < (l0.length : Int)) = true := decide_eq_true c38
       have c38b1 : decide (0 < l0.length) = true := decide_eq_true (by omega)
       clear c38
       by_cases c39 : 0 < (l0.length : Int)
       ·
        rw [if_pos c39] at H
        have c39b0 : decide (0 < (l0.length : Int)) = true := decide_eq_true c39
        have c39b1 : decide (0 < l0.length) = true := decide_eq_true (by omega)
        clear c39
        replace H := Option.bind_eq_some_iff.mp H
        obtain ⟨t493, A400, H⟩ := H
        have A40 := Aside0.mk A400
        clear A400
        by_cases c41 : 0 ≤ t493
        ·
         rw [if_pos c41] at H
         have c41b0 := eq_true c41
         have c41b1 : decide (0 ≤ t493) = true := decide_eq_true c41
         clear c41
         by_cases c42 : (t493 : Int).toNat ≤ 281474976710656
         ·
          rw [if_pos c42] at H
          have c42b0 := eq_true c42
          have c42b1 : decide ((t493 : Int).toNat ≤ 281474976710656) = true := decide_eq_true c42
          clear c42
          obtain ⟨y494, hy494⟩ : ∃ y_ : List Int, y_ = (List.replicate (t493 : Int).toNat 0) := ⟨_, rfl⟩
          replace H : (if 1 < (x3_1.length : Int) then (some (x3_1.set (1 : Int).toNat (⟨(rd_T50 x3_1 1).f0, strOfNums y494⟩ : S50))) else (none)) = some r := by first | (rw [hy494]; with_reducible exact H) | (have H2_ := (Option.bind_some _ _).symm.trans H; rw [hy494]; with_reducible exact H2_) | (have H2_ := (Option.bind_some _ _).symm.trans H; with_reducible exact H2_) | with_reducible exact H | (rw [hy494]; exact H) | exact H
          have Ny494 := Aside0.mk hy494
          clear hy494
          by_cases c43 : 1 < (x3_1.length : Int)
          ·
           rw [if_pos c43] at H
           have c43b0 : decide (1 < (x3_1.length : Int)) = true := decide_eq_true c43
           have c43b1 : decide (1 < x3_1.length) = true := decide_eq_true (by omega)
           clear c43
           obtain ⟨y497, hy497⟩ : ∃ y_ : List (S50), y_ = (x3_1.set (1 : Int).toNat (⟨(rd_T50 x3_1 1).f0, strOfNums y494⟩ : S50)) := ⟨_, rfl⟩
           replace H : (some y497) = some r := by first | (rw [hy497]; with_reducible exact H) | (have H2_ := (Option.bind_some _ _).symm.trans H; rw [hy497]; with_reducible exact H2_) | (have H2_ := (Option.bind_some _ _).symm.trans H; with_reducible exact H2_) | with_reducible exact H | (rw [hy497]; exact H) | exact H
           have Ny497 := Aside0.mk hy497
           clear hy497
           obtain rfl := Option.some.inj H
           have p492 : 0 ≤ (0 : Int) := (by omega)
           have q492 : 0 < (l0.length : Int) := of_decide_eq_true (by first | (with_reducible assumption) | assumption)
           obtain ⟨ad492, e492, hx492_0⟩ := Kd.at_int HR0.out 0 p492 q492
           cases e492
           have qi492 : (0 < l0.length) = True := eq_true (by omega)
           (try rw [show ((0 : Int)).toNat = 0 from rfl] at hx492_0)
           (try rw [Addr.add_zero'] at hx492_0)
           replace hx492_0 := (HB.out.cell (World.block_lt_of_cell? w _ hx492_0)).trans hx492_0
           replace p492 := eq_true p492
           replace q492 := eq_true q492
           go_wp2_with (first | ((with_reducible refine gate_callee (f := 27) rfl ?_); refine goesL_ (some 65) rfl rfl Try.func27 (by kernel_rfl) rfl #[.int .i64 (rd l0 0), .int .i64 2940, .int .i64 245] rfl (by (try simp only [List.map_toArray, List.map_cons, List.map_nil]); first | done | rfl | (simp only [List.length_drop, List.length_take]; rfl)) ?_; (with_reducible refine (busbarlaw0_Digit.calls (rd l0 0) 2940 245 t493 _ A40.out).mono ?_); rintro e w' ⟨rfl, ⟨nd, rfl⟩⟩; refine ⟨_, rfl, ?_⟩; (try (rw [drewN_self wc]; generalize hq_ : World.drewN wc _ = wc; replace HO_3 := Kd.dqR HO_3 hq_; replace HB := dqB HB hq_; clear hq_))) | ((with_reducible refine gate_dst (N := 66) rfl ?_); refine Kd.R_make (Kd.int .u8) _ 5 rfl (N := 66) rfl 58 _ _ rfl t493 rfl rfl Try.underlying58 (.int .u8 0) 1 info5 rfl (by decide) (by omega) 0 (ok := fun _ => True) (okp := fun _ => True) rfl (fun _ hk => hk) trivial (of_decide_eq_true (by first | (with_reducible assumption) | assumption)) (Nat.le_trans (Nat.mul_le_mul_right _ (of_decide_eq_true (by first | (with_reducible assumption) | assumption) : t493.toNat ≤ 281474976710656)) (by omega)) (Below.refl _ _) (Nat.le_refl _) ?_; intro v495 w45 ho46 hb hg_ hnew_; clear hg_ hnew_; (first | rw [← Ny494.out] at ho46 | (simp only [Int.reduceToNat] at ho46; rw [← Ny494.out] at ho46)); replace HO_3 := Aside0.mk (Kd.R_below (HO_3.out) hb); have HO496 := Aside0.mk (Kd.R_lower ho46 (below_size (HB.out))); replace HB := Aside0.mk (below_step (HB.out) hb); clear hb ho46; have hcv47 := own_string (P := Try.prog) Try.underlying58 Try.underlying5 Try.underlying9 (Kd.own_of_R (h1 := fun _ => rfl) HO496.out); have p44 : 0 ≤ (1 : Int) := (by omega); have q44 : (1 : Int) < ((x3_1.length : Int) : Int) := of_decide_eq_true (by first | (with_reducible assumption) | assumption); have qi44 : (1 < x3_1.length) = True := eq_true (by omega); obtain ⟨go44, co44, eo44, gb44, gl44, cl44, HG44⟩ := Kd.R_form HO_3.out (by omega); (first | cases eo44 | (injection eo44 with ea_ en_ ec_; (first | subst ea_ | (injection ea_ with ea_; subst ea_)); subst ec_; clear en_)); have GB44 := Aside0.mk gb44; have GG44 := Aside0.mk HG44; clear gb44 gl44 HG44; obtain ⟨ce44, hcl44, hM44, hcc44, hfr44⟩ := Kd.R_elem HO_3.out z50 (1 : Int) p44 q44; obtain rfl := k50_openM hM44; have hx44_0 : w45.cell? ⟨go44, (1 : Int).toNat * 2, none⟩ = some (.int .i64 ((rd_T50 x3_1 1).f0)) := hcc44 0 _ rfl; have hx44_1 : w45.cell? ⟨go44, (1 : Int).toNat * 2 + 1, none⟩ = some (.string ((rd_T50 x3_1 1).f1)) := hcc44 1 _ rfl; have hf44_0 : w45.frozen? ⟨go44, (1 : Int).toNat * 2, none⟩ = false := hfr44 0; have hf44_1 : w45.frozen? ⟨go44, (1 : Int).toNat * 2 + 1, none⟩ = false := hfr44 1; clear hcl44 hcc44 hfr44 hM44; (try rw [show ((1 : Int)).toNat = 1 from rfl] at hx44_0); (try simp only [Nat.reduceMul, Nat.zero_mul, Nat.zero_add, Nat.reduceAdd] at hx44_0); (try rw [show ((1 : Int)).toNat = 1 from rfl] at hf44_0); (try simp only [Nat.reduceMul, Nat.zero_mul, Nat.zero_add, Nat.reduceAdd] at hf44_0); (try rw [show ((1 : Int)).toNat = 1 from rfl] at hx44_1); (try simp only [Nat.reduceMul, Nat.zero_mul, Nat.zero_add, Nat.reduceAdd] at hx44_1); (try rw [show ((1 : Int)).toNat = 1 from rfl] at hf44_1); (try simp only [Nat.reduceMul, Nat.zero_mul, Nat.zero_add, Nat.reduceAdd] at hf44_1); replace p44 := eq_true p44; replace q44 := eq_true q44; have HX48 := Aside0.mk (show Kd.R k50 50 w45 w.heap.size (fun _ => True) (.slice (some ⟨go44, 0, none⟩) x3_1.length co44) x3_1 from (HO_3.out)); obtain ⟨ce48, hcl48, hM48, hcc48, hfr48⟩ := Kd.R_elem HX48.out z50 (1 : Int) (by omega) (by have h_ : (1 : Int) < ((x3_1.length : Int) : Int) := of_decide_eq_true (by first | (with_reducible assumption) | assumption); first | exact h_ | (have e_ := (Kd.R_reads' HO_3.out).1; omega) | simpa using h_); obtain rfl := k50_openM hM48; have HP48 := Kd.R_seg HX48.out (1 : Int) (by omega) (by have h_ : (1 : Int) < ((x3_1.length : Int) : Int) := of_decide_eq_true (by first | (with_reducible assumption) | assumption); first | exact h_ | (have e_ := (Kd.R_reads' HO_3.out).1; omega) | simpa using h_) (seg := [.string (strOfNums y494)]) (j := 1) hcl48 hcc48 (show 2 ≤ 2 from by decide) (x' := (⟨(rd_T50 x3_1 1).f0, strOfNums y494⟩ : S50)) (k50_mkM _ _ _ (⟨(rd_T50 x3_1 1).f0, strOfNums y494⟩ : S50) ) (fun _ hk => hk); have hx48_1 := hcc48 1 _ rfl; (try simp only [show (k50).sz = 2 from rfl, Nat.mul_one, Nat.add_zero] at hx48_1); (try rw [show ((1 : Int)).toNat = 1 from rfl] at hx48_1); (try simp only [Nat.reduceMul, Nat.zero_mul, Nat.zero_add, Nat.reduceAdd] at hx48_1); have hf48_1 := hfr48 1; (try simp only [show (k50).sz = 2 from rfl, Nat.mul_one, Nat.add_zero] at hf48_1); (try rw [show ((1 : Int)).toNat = 1 from rfl] at hf48_1); (try simp only [Nat.reduceMul, Nat.zero_mul, Nat.zero_add, Nat.reduceAdd] at hf48_1); clear hcl48 hcc48 hfr48 hM48) | ((with_reducible refine gate_store (t := 9) (p := 69) rfl ?_); refine store_event (t := 9) (p := 69) (v := ?vo_w49) (w1 := (w45.setCell ⟨go44, 3, none⟩ (.string (strOfNums y494)))) ?hg ?ho ?hn ?hr ?_; (case ho => rfl); (case hg => rfl); (case hn => rfl); (case hr => first | (go_simp; done) | (go_simp; rfl)); intro w49 hw; have hg : w45.grownBy w49 (some go44) := (by rw [hw]; exact HP48.2); have hp_ : Kd.R k50 50 w49 w.heap.size (fun _ => True) (.slice (some ⟨go44, 0, none⟩) x3_1.length co44) y497 := (by rw [hw, Ny497.out]; exact HP48.1); clear HP48; replace HO496 := Aside0.mk (Kd.R_over' (v := (.slice (some ⟨go44, 0, none⟩) x3_1.length co44)) (HO496.out) (Kd.R_typed HO_3.out) (by decide) hg); replace HO_3 := Aside0.mk (hp_); replace HB := Aside0.mk ((by rw [hw]; exact below_set (HB.out) GB44.out : Below w.heap.size w w49)); clear hg hw hp_))
           go_ret
           exact ⟨_, by first | rfl | (simp [errW_none, errW_some] <;> rfl) | (simp [*, errW_none, errW_some] <;> rfl), by (with_reducible repeat (first | apply Kd.R_alloc | apply Kd.R_drewN | apply Kd.R_drew)); exact HO_3.out, HB.out⟩
          ·
           rw [if_neg c43] at H
           exact absurd H (by simp)
         ·
          rw [if_neg c42] at H
          exact absurd H (by simp)
        ·
         rw [if_neg c41] at H
         exact absurd H (by simp)
       ·
        rw [if_neg c39] at H
        exact absurd H (by simp)
      ·
       rw [if_neg c38] at H
       have c38b0 : decide (0 < (l0.length : Int)) = false := decide_eq_false c38
       have c38b1 : decide (0 < l0.length) = false := decide_eq_false (by omega)
       clear c38
       obtain rfl := Option.some.inj H
       go_wp2
       go_ret
       exact ⟨_, by first | rfl | (simp [errW_none, errW_some] <;> rfl) | (simp [*, errW_none, errW_some] <;> rfl), by (with_reducible repeat (first | apply Kd.R_alloc | apply Kd.R_drewN | apply Kd.R_drew)); exact HO_3.out, HB.out⟩
end Go.Proofs.Ytjlbgopgeepiaaa.PConf
namespace Go.Proofs.Ytjlbgopgeepiaaa.PConf
open Go.RowKit Go.Proofs.YtjlbgopgeepiaaaW.PrintWords Go.Proofs.YtjlbgopgeepiaaaW.PrintLast Go.Proofs.YtjlbgopgeepiaaaW.PrintMore
attribute [local go_sem] max2_int min2_int max_two min_two max_three min_three max_four min_four plus_setCell_drewN plus_cell_same   -- for this text's walks alone
set_option linter.unusedVariables false
set_option linter.unusedSimpArgs false
mutual
def busbarlaw15_ConfChecks.j0 : Nat → List Int → Int → Int → Bool → Bool → List (S46) → List (S48) → Int → Int → Int → Int → Int → Int → Int → Int → Int → Int → List (S50) → Option (Bool)
 | 0, _, _, _, _, _, _, _, _, _, _, _, _, _, _, _, _, _, _ => none
 | k + 1, x1, x2, x3, x4, x18, x516000, x516001, x516002, x516003, x516004, x516005, x516006, x516007, x516008, x516009, x516010, x516011, x516012 => if x18 = true then ((busbarlaw15_awake.f k).bind fun t518 => (some t518)) else ((conf_Check.f k x516000 x516001 x516002 x516003 x516004 x516005 x516006 x516007 x516008 x516009 x516010 x516011 x516012).bind fun t519 => ((busbarref12_Check.f k x516000 x516001 x516002 x516003 x516004 x516005 x516006 x516007 x516008 x516009 x516010 x516011 x516012).bind fun t520 => (if t519 = t520 then ((busbarlaw0_Conf.f k x1).bind fun bt521 => ((busbarlaw7_Objects.f k x1).bind fun t541 => ((conf_Check.f k bt521.1 bt521.2.1 bt521.2.2.1 bt521.2.2.2.1 bt521.2.2.2.2.1 bt521.2.2.2.2.2.1 bt521.2.2.2.2.2.2.1 bt521.2.2.2.2.2.2.2.1 bt521.2.2.2.2.2.2.2.2.1 bt521.2.2.2.2.2.2.2.2.2.1 bt521.2.2.2.2.2.2.2.2.2.2.1 bt521.2.2.2.2.2.2.2.2.2.2.2.1 t541).bind fun t544 => (if t544 = 0 then (if x4 = true then ((busbarlaw0_Within.f x3 8).bind fun t545 => (if 0 ≤ t545 then (if t545 < 8 then (busbarlaw15_ConfChecks.j1 k x2 (rd [0, 1, 32, 33, 259, 260, 65536, 65537] t545) bt521.1 bt521.2.1 bt521.2.2.1 bt521.2.2.2.1 bt521.2.2.2.2.1 bt521.2.2.2.2.2.1 bt521.2.2.2.2.2.2.1 bt521.2.2.2.2.2.2.2.1 bt521.2.2.2.2.2.2.2.2.1 bt521.2.2.2.2.2.2.2.2.2.1 bt521.2.2.2.2.2.2.2.2.2.2.1 bt521.2.2.2.2.2.2.2.2.2.2.2.1 t541) else (none)) else (none))) else (busbarlaw15_ConfChecks.j1 k x2 x3 bt521.1 bt521.2.1 bt521.2.2.1 bt521.2.2.2.1 bt521.2.2.2.2.1 bt521.2.2.2.2.2.1 bt521.2.2.2.2.2.2.1 bt521.2.2.2.2.2.2.2.1 bt521.2.2.2.2.2.2.2.2.1 bt521.2.2.2.2.2.2.2.2.2.1 bt521.2.2.2.2.2.2.2.2.2.2.1 bt521.2.2.2.2.2.2.2.2.2.2.2.1 t541)) else (some false))))) else (some false))))
def busbarlaw15_ConfChecks.j1 : Nat → Int → Int → List (S46) → List (S48) → Int → Int → Int → Int → Int → Int → Int → Int → Int → Int → List (S50) → Option (Bool)
 | 0, _, _, _, _, _, _, _, _, _, _, _, _, _, _, _ => none
 | k + 1, x2, x3, x541000, x541001, x541002, x541003, x541004, x541005, x541006, x541007, x541008, x541009, x541010, x541011, x541012 => (busbarlaw0_Within.f x2 9).bind fun t547 => (if t547 = 0 then (busbarlaw15_ConfChecks.j2 k x541000 x541001 x3 x541003 x541004 x541005 x541006 x541007 x541008 x541009 x541010 x541011 x541012) else (if t547 = 1 then (busbarlaw15_ConfChecks.j2 k x541000 x541001 x541002 x3 x541004 x541005 x541006 x541007 x541008 x541009 x541010 x541011 x541012) else (if t547 = 2 then (busbarlaw15_ConfChecks.j2 k x541000 x541001 x541002 x541003 x3 x541005 x541006 x541007 x541008 x541009 x541010 x541011 x541012) else (if t547 = 3 then (busbarlaw15_ConfChecks.j2 k x541000 x541001 x541002 x541003 x541004 x3 x541006 x541007 x541008 x541009 x541010 x541011 x541012) else (if t547 = 4 then (busbarlaw15_ConfChecks.j2 k x541000 x541001 x541002 x541003 x541004 x541005 x3 x541007 x541008 x541009 x541010 x541011 x541012) else (if t547 = 5 then (busbarlaw15_ConfChecks.j2 k x541000 x541001 x541002 x541003 x541004 x541005 x541006 x3 x541008 x541009 x541010 x541011 x541012) else (if t547 = 6 then (busbarlaw15_ConfChecks.j2 k x541000 x541001 x541002 x541003 x541004 x541005 x541006 x541007 x3 x541009 x541010 x541011 x541012) else (if t547 = 7 then (busbarlaw15_ConfChecks.j2 k x541000 x541001 x541002 x541003 x541004 x541005 x541006 x541007 x541008 x3 x541010 x541011 x541012) else (if t547 = 8 then (busbarlaw15_ConfChecks.j2 k x541000 x541001 x541002 x541003 x541004 x541005 x541006 x541007 x541008 x541009 x3 x541011 x541012) else (busbarlaw15_ConfChecks.j2 k x541000 x541001 x541002 x541003 x541004 x541005 x541006 x541007 x541008 x541009 x541010 x541011 x541012))))))))))
def busbarlaw15_ConfChecks.j2 : Nat → List (S46) → List (S48) → Int → Int → Int → Int → Int → Int → Int → Int → Int → Int → List (S50) → Option (Bool)
 | 0, _, _, _, _, _, _, _, _, _, _, _, _, _ => none
 | k + 1, x541000, x541001, x541002, x541003, x541004, x541005, x541006, x541007, x541008, x541009, x541010, x541011, x541012 => (conf_Check.f k x541000 x541001 x541002 x541003 x541004 x541005 x541006 x541007 x541008 x541009 x541010 x541011 x541012).bind fun t548 => ((busbarref12_Check.f k x541000 x541001 x541002 x541003 x541004 x541005 x541006 x541007 x541008 x541009 x541010 x541011 x541012).bind fun t549 => (some (t548 == t549)))
end
def busbarlaw15_ConfChecks.f (k : Nat) (l0_0 : List (S46)) (l0_1 : List (S48)) (a0_2 : Int) (a0_3 : Int) (a0_4 : Int) (a0_5 : Int) (a0_6 : Int) (a0_7 : Int) (a0_8 : Int) (a0_9 : Int) (a0_10 : Int) (a0_11 : Int) (l0_12 : List (S50)) (l1 : List Int) (a2 : Int) (a3 : Int) (a4 : Bool) : Option (Bool) := (busbarlaw15_few.f k l0_0 l0_1 a0_2 a0_3 a0_4 a0_5 a0_6 a0_7 a0_8 a0_9 a0_10 a0_11 l0_12).bind fun t516 => (if t516 = true then ((busbarlaw15_awake.f k).bind fun t517 => (busbarlaw15_ConfChecks.j0 k l1 a2 a3 a4 (!t517) l0_0 l0_1 a0_2 a0_3 a0_4 a0_5 a0_6 a0_7 a0_8 a0_9 a0_10 a0_11 l0_12)) else (busbarlaw15_ConfChecks.j0 k l1 a2 a3 a4 true l0_0 l0_1 a0_2 a0_3 a0_4 a0_5 a0_6 a0_7 a0_8 a0_9 a0_10 a0_11 l0_12))
theorem busbarlaw15_ConfChecks.mono_l : ∀ k, (∀ y0 y1 y2 y3 y4 y5 y6 y7 y8 y9 y10 y11 y12 y13 y14 y15 y16 y17, LeO (busbarlaw15_ConfChecks.j0 k y0 y1 y2 y3 y4 y5 y6 y7 y8 y9 y10 y11 y12 y13 y14 y15 y16 y17) (busbarlaw15_ConfChecks.j0 (k + 1) y0 y1 y2 y3 y4 y5 y6 y7 y8 y9 y10 y11 y12 y13 y14 y15 y16 y17)) ∧ (∀ y0 y1 y2 y3 y4 y5 y6 y7 y8 y9 y10 y11 y12 y13 y14, LeO (busbarlaw15_ConfChecks.j1 k y0 y1 y2 y3 y4 y5 y6 y7 y8 y9 y10 y11 y12 y13 y14) (busbarlaw15_ConfChecks.j1 (k + 1) y0 y1 y2 y3 y4 y5 y6 y7 y8 y9 y10 y11 y12 y13 y14)) ∧ (∀ y0 y1 y2 y3 y4 y5 y6 y7 y8 y9 y10 y11 y12, LeO (busbarlaw15_ConfChecks.j2 k y0 y1 y2 y3 y4 y5 y6 y7 y8 y9 y10 y11 y12) (busbarlaw15_ConfChecks.j2 (k + 1) y0 y1 y2 y3 y4 y5 y6 y7 y8 y9 y10 y11 y12))
 | 0 => ⟨fun _ _ _ _ _ _ _ _ _ _ _ _ _ _ _ _ _ _ r h => by simp [busbarlaw15_ConfChecks.j0] at h, fun _ _ _ _ _ _ _ _ _ _ _ _ _ _ _ r h => by simp [busbarlaw15_ConfChecks.j1] at h, fun _ _ _ _ _ _ _ _ _ _ _ _ _ r h => by simp [busbarlaw15_ConfChecks.j2] at h⟩
 | k + 1 => by
  obtain ⟨ih0, ih1, ih2⟩ := busbarlaw15_ConfChecks.mono_l k
  refine ⟨?_, ?_, ?_⟩
  ·
   intro y0 y1 y2 y3 y4 y5 y6 y7 y8 y9 y10 y11 y12 y13 y14 y15 y16 y17
   unfold busbarlaw15_ConfChecks.j0
   repeat' first
   | (with_reducible exact ih0 _ _ _ _ _ _ _ _ _ _ _ _ _ _ _ _ _ _)
   | (with_reducible exact ih1 _ _ _ _ _ _ _ _ _ _ _ _ _ _ _)
   | (with_reducible exact ih2 _ _ _ _ _ _ _ _ _ _ _ _ _)
   | (with_reducible exact busbarlaw0_Conf.mono _ _)
   | (with_reducible exact busbarlaw15_awake.mono _)
   | (with_reducible exact busbarlaw15_few.mono _ _ _ _ _ _ _ _ _ _ _ _ _ _)
   | (with_reducible exact busbarlaw7_Objects.mono _ _)
   | (with_reducible exact busbarref12_Check.mono _ _ _ _ _ _ _ _ _ _ _ _ _ _)
   | (with_reducible exact conf_Check.mono _ _ _ _ _ _ _ _ _ _ _ _ _ _)
   | (with_reducible exact LeO.refl _)
   | (with_reducible exact LeO.none _)
   | (with_reducible refine LeO.ite ?_ ?_)
   | (with_reducible refine LeO.bind ?_ (fun _ => ?_))
   | exact ih0 _ _ _ _ _ _ _ _ _ _ _ _ _ _ _ _ _ _
   | exact ih1 _ _ _ _ _ _ _ _ _ _ _ _ _ _ _
   | exact ih2 _ _ _ _ _ _ _ _ _ _ _ _ _
   | exact busbarlaw0_Conf.mono _ _
   | exact busbarlaw15_awake.mono _
   | exact busbarlaw15_few.mono _ _ _ _ _ _ _ _ _ _ _ _ _ _
   | exact busbarlaw7_Objects.mono _ _
   | exact busbarref12_Check.mono _ _ _ _ _ _ _ _ _ _ _ _ _ _
   | exact conf_Check.mono _ _ _ _ _ _ _ _ _ _ _ _ _ _
   | exact LeO.none _
   | refine LeO.ite ?_ ?_
   | refine LeO.bind ?_ (fun _ => ?_)
  ·
   intro y0 y1 y2 y3 y4 y5 y6 y7 y8 y9 y10 y11 y12 y13 y14
   unfold busbarlaw15_ConfChecks.j1
   repeat' first
   | (with_reducible exact ih0 _ _ _ _ _ _ _ _ _ _ _ _ _ _ _ _ _ _)
   | (with_reducible exact ih1 _ _ _ _ _ _ _ _ _ _ _ _ _ _ _)
   | (with_reducible exact ih2 _ _ _ _ _ _ _ _ _ _ _ _ _)
   | (with_reducible exact busbarlaw0_Conf.mono _ _)
   | (with_reducible exact busbarlaw15_awake.mono _)
   | (with_reducible exact busbarlaw15_few.mono _ _ _ _ _ _ _ _ _ _ _ _ _ _)
   | (with_reducible exact busbarlaw7_Objects.mono _ _)
   | (with_reducible exact busbarref12_Check.mono _ _ _ _ _ _ _ _ _ _ _ _ _ _)
   | (with_reducible exact conf_Check.mono _ _ _ _ _ _ _ _ _ _ _ _ _ _)
   | (with_reducible exact LeO.refl _)
   | (with_reducible exact LeO.none _)
   | (with_reducible refine LeO.ite ?_ ?_)
   | (with_reducible refine LeO.bind ?_ (fun _ => ?_))
   | exact ih0 _ _ _ _ _ _ _ _ _ _ _ _ _ _ _ _ _ _
   | exact ih1 _ _ _ _ _ _ _ _ _ _ _ _ _ _ _
   | exact ih2 _ _ _ _ _ _ _ _ _ _ _ _ _
   | exact busbarlaw0_Conf.mono _ _
   | exact busbarlaw15_awake.mono _
   | exact busbarlaw15_few.mono _ _ _ _ _ _ _ _ _ _ _ _ _ _
   | exact busbarlaw7_Objects.mono _ _
   | exact busbarref12_Check.mono _ _ _ _ _ _ _ _ _ _ _ _ _ _
   | exact conf_Check.mono _ _ _ _ _ _ _ _ _ _ _ _ _ _
   | exact LeO.none _
   | refine LeO.ite ?_ ?_
   | refine LeO.bind ?_ (fun _ => ?_)
  ·
   intro y0 y1 y2 y3 y4 y5 y6 y7 y8 y9 y10 y11 y12
   unfold busbarlaw15_ConfChecks.j2
   repeat' first
   | (with_reducible exact ih0 _ _ _ _ _ _ _ _ _ _ _ _ _ _ _ _ _ _)
   | (with_reducible exact ih1 _ _ _ _ _ _ _ _ _ _ _ _ _ _ _)
   | (with_reducible exact ih2 _ _ _ _ _ _ _ _ _ _ _ _ _)
   | (with_reducible exact busbarlaw0_Conf.mono _ _)
   | (with_reducible exact busbarlaw15_awake.mono _)
   | (with_reducible exact busbarlaw15_few.mono _ _ _ _ _ _ _ _ _ _ _ _ _ _)
   | (with_reducible exact busbarlaw7_Objects.mono _ _)
   | (with_reducible exact busbarref12_Check.mono _ _ _ _ _ _ _ _ _ _ _ _ _ _)
   | (with_reducible exact conf_Check.mono _ _ _ _ _ _ _ _ _ _ _ _ _ _)
   | (with_reducible exact LeO.refl _)
   | (with_reducible exact LeO.none _)
   | (with_reducible refine LeO.ite ?_ ?_)
   | (with_reducible refine LeO.bind ?_ (fun _ => ?_))
   | exact ih0 _ _ _ _ _ _ _ _ _ _ _ _ _ _ _ _ _ _
   | exact ih1 _ _ _ _ _ _ _ _ _ _ _ _ _ _ _
   | exact ih2 _ _ _ _ _ _ _ _ _ _ _ _ _
   | exact busbarlaw0_Conf.mono _ _
   | exact busbarlaw15_awake.mono _
   | exact busbarlaw15_few.mono _ _ _ _ _ _ _ _ _ _ _ _ _ _
   | exact busbarlaw7_Objects.mono _ _
   | exact busbarref12_Check.mono _ _ _ _ _ _ _ _ _ _ _ _ _ _
   | exact conf_Check.mono _ _ _ _ _ _ _ _ _ _ _ _ _ _
   | exact LeO.none _
   | refine LeO.ite ?_ ?_
   | refine LeO.bind ?_ (fun _ => ?_)
theorem busbarlaw15_ConfChecks.mono : ∀ a0 a1 a2 a3 a4 a5 a6 a7 a8 a9 a10 a11 a12 a13 a14 a15 a16 k, LeO (busbarlaw15_ConfChecks.f k a0 a1 a2 a3 a4 a5 a6 a7 a8 a9 a10 a11 a12 a13 a14 a15 a16) (busbarlaw15_ConfChecks.f (k + 1) a0 a1 a2 a3 a4 a5 a6 a7 a8 a9 a10 a11 a12 a13 a14 a15 a16) := by
 intro a0 a1 a2 a3 a4 a5 a6 a7 a8 a9 a10 a11 a12 a13 a14 a15 a16 k
 obtain ⟨ih0, ih1, ih2⟩ := busbarlaw15_ConfChecks.mono_l k
 unfold busbarlaw15_ConfChecks.f
 repeat' first
   | (with_reducible exact ih0 _ _ _ _ _ _ _ _ _ _ _ _ _ _ _ _ _ _)
   | (with_reducible exact ih1 _ _ _ _ _ _ _ _ _ _ _ _ _ _ _)
   | (with_reducible exact ih2 _ _ _ _ _ _ _ _ _ _ _ _ _)
   | (with_reducible exact busbarlaw0_Conf.mono _ _)
   | (with_reducible exact busbarlaw15_awake.mono _)
   | (with_reducible exact busbarlaw15_few.mono _ _ _ _ _ _ _ _ _ _ _ _ _ _)
   | (with_reducible exact busbarlaw7_Objects.mono _ _)
   | (with_reducible exact busbarref12_Check.mono _ _ _ _ _ _ _ _ _ _ _ _ _ _)
   | (with_reducible exact conf_Check.mono _ _ _ _ _ _ _ _ _ _ _ _ _ _)
   | (with_reducible exact LeO.refl _)
   | (with_reducible exact LeO.none _)
   | (with_reducible refine LeO.ite ?_ ?_)
   | (with_reducible refine LeO.bind ?_ (fun _ => ?_))
   | exact ih0 _ _ _ _ _ _ _ _ _ _ _ _ _ _ _ _ _ _
   | exact ih1 _ _ _ _ _ _ _ _ _ _ _ _ _ _ _
   | exact ih2 _ _ _ _ _ _ _ _ _ _ _ _ _
   | exact busbarlaw0_Conf.mono _ _
   | exact busbarlaw15_awake.mono _
   | exact busbarlaw15_few.mono _ _ _ _ _ _ _ _ _ _ _ _ _ _
   | exact busbarlaw7_Objects.mono _ _
   | exact busbarref12_Check.mono _ _ _ _ _ _ _ _ _ _ _ _ _ _
   | exact conf_Check.mono _ _ _ _ _ _ _ _ _ _ _ _ _ _
   | exact LeO.none _
   | refine LeO.ite ?_ ?_
   | refine LeO.bind ?_ (fun _ => ?_)
set_option maxHeartbeats 8000000 in
set_option maxRecDepth 100000 in
theorem busbarlaw15_ConfChecks.calls (k : Nat) (A0_0 : Option Addr) (c0_0 : Nat) (l0_0 : List (S46)) (A0_1 : Option Addr) (c0_1 : Nat) (l0_1 : List (S48)) (a0_2 : Int) (a0_3 : Int) (a0_4 : Int) (a0_5 : Int) (a0_6 : Int) (a0_7 : Int) (a0_8 : Int) (a0_9 : Int) (a0_10 : Int) (a0_11 : Int) (A0_12 : Option Addr) (c0_12 : Nat) (l0_12 : List (S50)) (A1 : Option Addr) (c1 : Nat) (l1 : List Int) (a2 : Int) (a3 : Int) (a4 : Bool) (r : Bool) (w : World) (hr0_0 : Kd.C k46 w A0_0 l0_0.length l0_0) (hc0_0 : l0_0.length ≤ c0_0) (hr0_1 : Kd.C k48 w A0_1 l0_1.length l0_1) (hc0_1 : l0_1.length ≤ c0_1) (hr0_12 : Kd.C k50 w A0_12 l0_12.length l0_12) (hc0_12 : l0_12.length ≤ c0_12) (hr1 : Kd.C (Kd.int .i64) w A1 l1.length l1) (hc1 : l1.length ≤ c1) (h : busbarlaw15_ConfChecks.f k l0_0 l0_1 a0_2 a0_3 a0_4 a0_5 a0_6 a0_7 a0_8 a0_9 a0_10 a0_11 l0_12 l1 a2 a3 a4 = some r) :
  Calls Try.prog 3 #[.agg #[.slice A0_0 l0_0.length c0_0, .slice A0_1 l0_1.length c0_1, .int .i64 a0_2, .int .i64 a0_3, .int .i64 a0_4, .int .i64 a0_5, .int .i64 a0_6, .int .i64 a0_7, .int .i64 a0_8, .int .i64 a0_9, .int .i64 a0_10, .int .u64 a0_11, .slice A0_12 l0_12.length c0_12], .slice A1 l1.length c1, .int .i64 a2, .int .i64 a3, .bool a4] w fun e w' => e = .returned (.bool r) ∧ Below w.heap.size w w' := by
 have hu27 := Try.underlying27
 have HR0_0 := Aside0.mk hr0_0
 have HC0_0 := Aside0.mk hc0_0
 clear hr0_0 hc0_0
 have HR0_1 := Aside0.mk hr0_1
 have HC0_1 := Aside0.mk hc0_1
 clear hr0_1 hc0_1
 have HR0_12 := Aside0.mk hr0_12
 have HC0_12 := Aside0.mk hc0_12
 clear hr0_12 hc0_12
 have HR1 := Aside0.mk hr1
 have HC1 := Aside0.mk hc1
 clear hr1 hc1
 have HB := Aside0.mk (Below.refl w.heap.size w)
 have H : ((busbarlaw15_few.f k l0_0 l0_1 a0_2 a0_3 a0_4 a0_5 a0_6 a0_7 a0_8 a0_9 a0_10 a0_11 l0_12).bind fun t516 => (if t516 = true then ((busbarlaw15_awake.f k).bind fun t517 => (busbarlaw15_ConfChecks.j0 k l1 a2 a3 a4 (!t517) l0_0 l0_1 a0_2 a0_3 a0_4 a0_5 a0_6 a0_7 a0_8 a0_9 a0_10 a0_11 l0_12)) else (busbarlaw15_ConfChecks.j0 k l1 a2 a3 a4 true l0_0 l0_1 a0_2 a0_3 a0_4 a0_5 a0_6 a0_7 a0_8 a0_9 a0_10 a0_11 l0_12))) = some r := h
 clear h
 have HC6 := Aside0.mk H
 clear H
 go_enter Try.func3, Try.ntmps3
 go_upto_region 1 with (first | ((with_reducible refine gate_dst (N := 5) rfl ?_); refine box_event ?hg (N := 5) ?hd (cs := #[.slice A0_0 l0_0.length c0_0, .slice A0_1 l0_1.length c0_1, .int .i64 a0_2, .int .i64 a0_3, .int .i64 a0_4, .int .i64 a0_5, .int .i64 a0_6, .int .i64 a0_7, .int .i64 a0_8, .int .i64 a0_9, .int .i64 a0_10, .int .u64 a0_11, .slice A0_12 l0_12.length c0_12]) (t := 27) ?hr ?_; (case hd => rfl); (case hg => rfl); (case hr => first | (go_simp; done) | (go_simp; rfl)); intro gb515 hg w7 hbox hb; have BK515 := Aside0.mk (hbox); have GW515 := Aside0.mk ((by rw [hg]; exact (below_size (HB.out)) : w.heap.size ≤ gb515)); have GE515 := Aside0.mk ((by rw [hg]; exact (below_size (HB.out)) : w.heap.size ≤ gb515)); replace HB := Aside0.mk (below_step (HB.out) hb); clear hb hbox hg))
 (try simp only [Act.put, List.setIfInBounds_toArray, List.set_cons_zero, List.set_cons_succ])
 go_cut [18] (fun v18 wc => ∃ (kq : Nat) (x18_5 : Bool), v18 = .bool x18_5 ∧ Aside0 (busbarlaw15_ConfChecks.j0 kq l1 a2 a3 a4 x18_5 l0_0 l0_1 a0_2 a0_3 a0_4 a0_5 a0_6 a0_7 a0_8 a0_9 a0_10 a0_11 l0_12 = some r) ∧ Aside0 (kq ≤ k) ∧ Aside0 (wc.heap[gb515]? = some (.cells #[(.slice A0_0 l0_0.length c0_0), (.slice A0_1 l0_1.length c0_1), .int .i64 a0_2, .int .i64 a0_3, .int .i64 a0_4, .int .i64 a0_5, .int .i64 a0_6, .int .i64 a0_7, .int .i64 a0_8, .int .i64 a0_9, .int .i64 a0_10, .int .u64 a0_11, (.slice A0_12 l0_12.length c0_12)] 27 (0, 0))) ∧ Aside0 (Below w.heap.size w wc))
 case first =>
  have H := HC6.out
  clear HC6
  replace H := Option.bind_eq_some_iff.mp H
  obtain ⟨t516, A80, H⟩ := H
  have A8 := Aside0.mk A80
  clear A80
  by_cases c9 : t516 = true
  ·
   subst c9
   have H1 : ((busbarlaw15_awake.f k).bind fun t517 => (busbarlaw15_ConfChecks.j0 k l1 a2 a3 a4 (!t517) l0_0 l0_1 a0_2 a0_3 a0_4 a0_5 a0_6 a0_7 a0_8 a0_9 a0_10 a0_11 l0_12)) = some r := by rw [if_pos rfl] at H; exact H
   clear H
   have H := H1
   clear H1
   replace H := Option.bind_eq_some_iff.mp H
   obtain ⟨t517, A100, H⟩ := H
   have A10 := Aside0.mk A100
   clear A100
   have H' := Aside0.mk H
   clear H
   obtain ⟨hcz11_0, hcz11_1, hcz11_2, hcz11_3, hcz11_4, hcz11_5, hcz11_6, hcz11_7, hcz11_8, hcz11_9, hcz11_10, hcz11_11, hcz11_12⟩ := blkc13 BK515.out
   obtain ⟨hfz11_0, hfz11_1, hfz11_2, hfz11_3, hfz11_4, hfz11_5, hfz11_6, hfz11_7, hfz11_8, hfz11_9, hfz11_10, hfz11_11, hfz11_12⟩ := blkf13 BK515.out
   go_wp2_with (first | ((with_reducible refine gate_callee (f := 6) rfl ?_); refine goesL_ (some 13) rfl rfl Try.func6 (by kernel_rfl) rfl #[.agg #[.slice A0_0 l0_0.length c0_0, .slice A0_1 l0_1.length c0_1, .int .i64 a0_2, .int .i64 a0_3, .int .i64 a0_4, .int .i64 a0_5, .int .i64 a0_6, .int .i64 a0_7, .int .i64 a0_8, .int .i64 a0_9, .int .i64 a0_10, .int .u64 a0_11, .slice A0_12 l0_12.length c0_12]] rfl (by (try simp only [List.map_toArray, List.map_cons, List.map_nil]); first | done | rfl | (simp only [List.length_drop, List.length_take]; rfl)) ?_; (with_reducible refine (busbarlaw15_few.calls k _ _ l0_0 _ _ l0_1 a0_2 a0_3 a0_4 a0_5 a0_6 a0_7 a0_8 a0_9 a0_10 a0_11 _ _ l0_12 true _ ?side1 ?side2 ?side3 ?side4 ?side5 ?side6 A8.out).mono ?_); (case side1 => repeat (first | exact (Kd.C_below HR0_0.out HB.out) | (with_reducible refine Kd.C_alloc ?_ _) | (with_reducible refine Kd.C_drewN ?_ _) | (with_reducible refine Kd.C_drew ?_))); (case side2 => exact HC0_0.out); (case side3 => repeat (first | exact (Kd.C_below HR0_1.out HB.out) | (with_reducible refine Kd.C_alloc ?_ _) | (with_reducible refine Kd.C_drewN ?_ _) | (with_reducible refine Kd.C_drew ?_))); (case side4 => exact HC0_1.out); (case side5 => repeat (first | exact (Kd.C_below HR0_12.out HB.out) | (with_reducible refine Kd.C_alloc ?_ _) | (with_reducible refine Kd.C_drewN ?_ _) | (with_reducible refine Kd.C_drew ?_))); (case side6 => exact HC0_12.out); rintro e w12 ⟨rfl, hb⟩; refine ⟨_, rfl, ?_⟩; replace BK515 := Aside0.mk (blk_below BK515.out hb); replace HB := Aside0.mk (below_step (HB.out) hb); (try clear hb); (try clear hi)) | (go_at_call 7; (with_reducible refine (busbarlaw15_awake.calls k  t517 _ A10.out).mono ?_); rintro e w13 ⟨rfl, hb⟩; replace BK515 := Aside0.mk (blk_below BK515.out hb); replace HB := Aside0.mk (below_step (HB.out) hb); (try clear hb); (try clear hi)))
   go_meet
   case rel => exact ⟨_, (!t517), (by first | rfl | (simp; done) | (simp [*]; done)), H', ⟨by first | omega | exact Nat.le_refl _⟩, ⟨BK515.out⟩, ⟨HB.out⟩⟩
  ·
   replace c9 := Bool.eq_false_iff.mpr c9
   subst c9
   have H1 : (busbarlaw15_ConfChecks.j0 k l1 a2 a3 a4 true l0_0 l0_1 a0_2 a0_3 a0_4 a0_5 a0_6 a0_7 a0_8 a0_9 a0_10 a0_11 l0_12) = some r := by rw [if_neg (show ¬ (false = true) by decide)] at H; exact H
   clear H
   have H := H1
   clear H1
   have H' := Aside0.mk H
   clear H
   obtain ⟨hcz14_0, hcz14_1, hcz14_2, hcz14_3, hcz14_4, hcz14_5, hcz14_6, hcz14_7, hcz14_8, hcz14_9, hcz14_10, hcz14_11, hcz14_12⟩ := blkc13 BK515.out
   obtain ⟨hfz14_0, hfz14_1, hfz14_2, hfz14_3, hfz14_4, hfz14_5, hfz14_6, hfz14_7, hfz14_8, hfz14_9, hfz14_10, hfz14_11, hfz14_12⟩ := blkf13 BK515.out
   go_wp2_with (first | ((with_reducible refine gate_callee (f := 6) rfl ?_); refine goesL_ (some 13) rfl rfl Try.func6 (by kernel_rfl) rfl #[.agg #[.slice A0_0 l0_0.length c0_0, .slice A0_1 l0_1.length c0_1, .int .i64 a0_2, .int .i64 a0_3, .int .i64 a0_4, .int .i64 a0_5, .int .i64 a0_6, .int .i64 a0_7, .int .i64 a0_8, .int .i64 a0_9, .int .i64 a0_10, .int .u64 a0_11, .slice A0_12 l0_12.length c0_12]] rfl (by (try simp only [List.map_toArray, List.map_cons, List.map_nil]); first | done | rfl | (simp only [List.length_drop, List.length_take]; rfl)) ?_; (with_reducible refine (busbarlaw15_few.calls k _ _ l0_0 _ _ l0_1 a0_2 a0_3 a0_4 a0_5 a0_6 a0_7 a0_8 a0_9 a0_10 a0_11 _ _ l0_12 false _ ?side1 ?side2 ?side3 ?side4 ?side5 ?side6 A8.out).mono ?_); (case side1 => repeat (first | exact (Kd.C_below HR0_0.out HB.out) | (with_reducible refine Kd.C_alloc ?_ _) | (with_reducible refine Kd.C_drewN ?_ _) | (with_reducible refine Kd.C_drew ?_))); (case side2 => exact HC0_0.out); (case side3 => repeat (first | exact (Kd.C_below HR0_1.out HB.out) | (with_reducible refine Kd.C_alloc ?_ _) | (with_reducible refine Kd.C_drewN ?_ _) | (with_reducible refine Kd.C_drew ?_))); (case side4 => exact HC0_1.out); (case side5 => repeat (first | exact (Kd.C_below HR0_12.out HB.out) | (with_reducible refine Kd.C_alloc ?_ _) | (with_reducible refine Kd.C_drewN ?_ _) | (with_reducible refine Kd.C_drew ?_))); (case side6 => exact HC0_12.out); rintro e w15 ⟨rfl, hb⟩; refine ⟨_, rfl, ?_⟩; replace BK515 := Aside0.mk (blk_below BK515.out hb); replace HB := Aside0.mk (below_step (HB.out) hb); (try clear hb); (try clear hi)))
   go_meet
   case rel => exact ⟨_, (true), (by first | rfl | (simp; done) | (simp [*]; done)), H', ⟨by first | omega | exact Nat.le_refl _⟩, ⟨BK515.out⟩, ⟨HB.out⟩⟩
 case rest =>
  clear HC6
  (try clear c1)
  obtain ⟨kq, x18_5, rfl, HA, HJ5, BK515, HB⟩ := hcut
  cases kq with
  | zero => exact absurd HA.out (by simp [busbarlaw15_ConfChecks.j0])
  | succ kj5 =>
   have H := HA.out
   clear HA
   simp only [busbarlaw15_ConfChecks.j0] at H
   by_cases c16 : x18_5 = true
   ·
    subst c16
    have H1 : ((busbarlaw15_awake.f kj5).bind fun t518 => (some t518)) = some r := by rw [if_pos rfl] at H; exact H
    clear H
    have H := H1
    clear H1
    replace H := Option.bind_eq_some_iff.mp H
    obtain ⟨t518, A170, H⟩ := H
    have A17 := Aside0.mk A170
    clear A170
    obtain rfl := Option.some.inj H
    go_wp2_with (first | ((with_reducible refine gate_callee (f := 7) rfl ?_); refine goesL_ (some 19) rfl rfl Try.func7 (by kernel_rfl) rfl #[] rfl (by (try simp only [List.map_toArray, List.map_cons, List.map_nil]); first | done | rfl | (simp only [List.length_drop, List.length_take]; rfl)) ?_; (with_reducible refine (busbarlaw15_awake.calls kj5  t518 _ A17.out).mono ?_); rintro e w18 ⟨rfl, hb⟩; refine ⟨_, rfl, ?_⟩; replace BK515 := Aside0.mk (blk_below BK515.out hb); replace HB := Aside0.mk (below_step (HB.out) hb); (try clear hb); (try clear hi)))
    go_ret
    exact ⟨by first | rfl | (simp [errW_none, errW_some] <;> rfl) | (simp [*, errW_none, errW_some] <;> rfl), HB.out⟩
   ·
    replace c16 := Bool.eq_false_iff.mpr c16
    subst c16
    have H1 : ((conf_Check.f kj5 l0_0 l0_1 a0_2 a0_3 a0_4 a0_5 a0_6 a0_7 a0_8 a0_9 a0_10 a0_11 l0_12).bind fun t519 => ((busbarref12_Check.f kj5 l0_0 l0_1 a0_2 a0_3 a0_4 a0_5 a0_6 a0_7 a0_8 a0_9 a0_10 a0_11 l0_12).bind fun t520 => (if t519 = t520 then ((busbarlaw0_Conf.f kj5 l1).bind fun bt521 => ((busbarlaw7_Objects.f kj5 l1).bind fun t541 => ((conf_Check.f kj5 bt521.1 bt521.2.1 bt521.2.2.1 bt521.2.2.2.1 bt521.2.2.2.2.1 bt521.2.2.2.2.2.1 bt521.2.2.2.2.2.2.1 bt521.2.2.2.2.2.2.2.1 bt521.2.2.2.2.2.2.2.2.1 bt521.2.2.2.2.2.2.2.2.2.1 bt521.2.2.2.2.2.2.2.2.2.2.1 bt521.2.2.2.2.2.2.2.2.2.2.2.1 t541).bind fun t544 => (if t544 = 0 then (if a4 = true then ((busbarlaw0_Within.f a3 8).bind fun t545 => (if 0 ≤ t545 then (if t545 < 8 then (busbarlaw15_ConfChecks.j1 kj5 a2 (rd [0, 1, 32, 33, 259, 260, 65536, 65537] t545) bt521.1 bt521.2.1 bt521.2.2.1 bt521.2.2.2.1 bt521.2.2.2.2.1 bt521.2.2.2.2.2.1 bt521.2.2.2.2.2.2.1 bt521.2.2.2.2.2.2.2.1 bt521.2.2.2.2.2.2.2.2.1 bt521.2.2.2.2.2.2.2.2.2.1 bt521.2.2.2.2.2.2.2.2.2.2.1 bt521.2.2.2.2.2.2.2.2.2.2.2.1 t541) else (none)) else (none))) else (busbarlaw15_ConfChecks.j1 kj5 a2 a3 bt521.1 bt521.2.1 bt521.2.2.1 bt521.2.2.2.1 bt521.2.2.2.2.1 bt521.2.2.2.2.2.1 bt521.2.2.2.2.2.2.1 bt521.2.2.2.2.2.2.2.1 bt521.2.2.2.2.2.2.2.2.1 bt521.2.2.2.2.2.2.2.2.2.1 bt521.2.2.2.2.2.2.2.2.2.2.1 bt521.2.2.2.2.2.2.2.2.2.2.2.1 t541)) else (some false))))) else (some false)))) = some r := by rw [if_neg (show ¬ (false = true) by decide)] at H; exact H
    clear H
    have H := H1
    clear H1
    replace H := Option.bind_eq_some_iff.mp H
    obtain ⟨t519, A190, H⟩ := H
    have A19 := Aside0.mk A190
    clear A190
    replace H := Option.bind_eq_some_iff.mp H
    obtain ⟨t520, A200, H⟩ := H
    have A20 := Aside0.mk A200
    clear A200
    by_cases c21 : t519 = t520
    ·
     rw [if_pos c21] at H
     have c21b0 : (t519 == t520) = true := beq_iff_eq.mpr c21
     have c21b1 : (t519 != t520) = false := bne_eq_false_iff_eq.mpr c21
     clear c21
     replace H := Option.bind_eq_some_iff.mp H
     obtain ⟨⟨t521, t524, t527, t528, t529, t530, t531, t532, t533, t534, t535, t536, t537⟩, A220, H⟩ := H
     replace H : ((busbarlaw7_Objects.f kj5 l1).bind fun t541 => ((conf_Check.f kj5 t521 t524 t527 t528 t529 t530 t531 t532 t533 t534 t535 t536 t541).bind fun t544 => (if t544 = 0 then (if a4 = true then ((busbarlaw0_Within.f a3 8).bind fun t545 => (if 0 ≤ t545 then (if t545 < 8 then (busbarlaw15_ConfChecks.j1 kj5 a2 (rd [0, 1, 32, 33, 259, 260, 65536, 65537] t545) t521 t524 t527 t528 t529 t530 t531 t532 t533 t534 t535 t536 t541) else (none)) else (none))) else (busbarlaw15_ConfChecks.j1 kj5 a2 a3 t521 t524 t527 t528 t529 t530 t531 t532 t533 t534 t535 t536 t541)) else (some false)))) = some r := H
     have A22 := Aside0.mk A220
     clear A220
     replace H := Option.bind_eq_some_iff.mp H
     obtain ⟨t541, A230, H⟩ := H
     have A23 := Aside0.mk A230
     clear A230
     replace H := Option.bind_eq_some_iff.mp H
     obtain ⟨t544, A240, H⟩ := H
     have A24 := Aside0.mk A240
     clear A240
     by_cases c25 : t544 = 0
     ·
      rw [if_pos c25] at H
      have c25b0 : (t544 == 0) = true := beq_iff_eq.mpr c25
      have c25b1 : (t544 != 0) = false := bne_eq_false_iff_eq.mpr c25
      clear c25
      have HC26 := Aside0.mk H
      clear H
      try go_wp2
      have n0_ := Aside0.mk (blk_drew BK515.out)
      have n1_ := Aside0.mk (below_drew1 HB.out)
      clear BK515
      clear HB
      have BK515 := n0_
      have HB := n1_
      clear n0_ n1_
      refine start_ (n := 5) (S := fun w' => w'.cell? ⟨gb515, 0, none⟩ = some (.slice A0_0 l0_0.length c0_0) ∧ w'.cell? ⟨gb515, 1, none⟩ = some (.slice A0_1 l0_1.length c0_1) ∧ w'.cell? ⟨gb515, 2, none⟩ = some (.int .i64 a0_2) ∧ w'.cell? ⟨gb515, 3, none⟩ = some (.int .i64 a0_3) ∧ w'.cell? ⟨gb515, 4, none⟩ = some (.int .i64 a0_4) ∧ w'.cell? ⟨gb515, 5, none⟩ = some (.int .i64 a0_5) ∧ w'.cell? ⟨gb515, 6, none⟩ = some (.int .i64 a0_6) ∧ w'.cell? ⟨gb515, 7, none⟩ = some (.int .i64 a0_7) ∧ w'.cell? ⟨gb515, 8, none⟩ = some (.int .i64 a0_8) ∧ w'.cell? ⟨gb515, 9, none⟩ = some (.int .i64 a0_9) ∧ w'.cell? ⟨gb515, 10, none⟩ = some (.int .i64 a0_10) ∧ w'.cell? ⟨gb515, 11, none⟩ = some (.int .u64 a0_11) ∧ w'.cell? ⟨gb515, 12, none⟩ = some (.slice A0_12 l0_12.length c0_12)) (ds := []) #[false,false,false,false,false] (by kernel_rfl) rfl rfl ⟨(blk_cell BK515.out 0).trans rfl, (blk_cell BK515.out 1).trans rfl, (blk_cell BK515.out 2).trans rfl, (blk_cell BK515.out 3).trans rfl, (blk_cell BK515.out 4).trans rfl, (blk_cell BK515.out 5).trans rfl, (blk_cell BK515.out 6).trans rfl, (blk_cell BK515.out 7).trans rfl, (blk_cell BK515.out 8).trans rfl, (blk_cell BK515.out 9).trans rfl, (blk_cell BK515.out 10).trans rfl, (blk_cell BK515.out 11).trans rfl, (blk_cell BK515.out 12).trans rfl⟩ (fun hHeld => ?_)
      generalize wc.drew = w27 at BK515 HB hHeld ⊢
      refine take_ (i := 0) (N := some 20) (v := ?_) (a' := ?_) #[true,false,false,false,false] rfl rfl (by kernel_rfl) (fun _ _ _ h => h) (Or.inl ⟨by rfl, ?_⟩) hHeld ?_ ?_
      rotate_left
      ·
       rintro w' ⟨s0, s1, s2, s3, s4, s5, s6, s7, s8, s9, s10, s11, s12⟩
       go_simp
       with_reducible rfl
      rotate_left
      ·
       simp only [Act.put, List.setIfInBounds_toArray, List.set_cons_zero, List.set_cons_succ, i64_w, i32_w]
       rfl
      refine take_ (i := 2) (N := some 22) (v := ?_) (a' := ?_) #[true,false,true,false,false] rfl rfl (by kernel_rfl) (fun _ _ _ h => h) (Or.inl ⟨by rfl, ?_⟩) hHeld ?_ ?_
      rotate_left
      ·
       rintro w' ⟨s0, s1, s2, s3, s4, s5, s6, s7, s8, s9, s10, s11, s12⟩
       go_simp
       with_reducible rfl
      rotate_left
      ·
       simp only [Act.put, List.setIfInBounds_toArray, List.set_cons_zero, List.set_cons_succ, i64_w, i32_w]
       rfl
      refine one_ (i := 1) (N := some 21) #[true,true,true,false,false] rfl rfl (by kernel_rfl) (by decide) (fun K hK => ?_)
      refine goes_ Try.func8 (by kernel_rfl) rfl #[.agg #[.slice A0_0 l0_0.length c0_0, .slice A0_1 l0_1.length c0_1, .int .i64 a0_2, .int .i64 a0_3, .int .i64 a0_4, .int .i64 a0_5, .int .i64 a0_6, .int .i64 a0_7, .int .i64 a0_8, .int .i64 a0_9, .int .i64 a0_10, .int .u64 a0_11, .slice A0_12 l0_12.length c0_12]] (by rfl) rfl rfl (by (try simp only [List.map_toArray, List.map_cons, List.map_nil]); first | done | rfl | (simp only [List.length_drop, List.length_take]; rfl)) ?_
      with_reducible refine (conf_Check.calls kj5 _ _ l0_0 _ _ l0_1 a0_2 a0_3 a0_4 a0_5 a0_6 a0_7 a0_8 a0_9 a0_10 a0_11 _ _ l0_12 t519 _ ?side1 ?side2 ?side3 ?side4 ?side5 ?side6 A19.out).mono ?_
      (case side1 => repeat (first | exact (Kd.C_below HR0_0.out HB.out) | (with_reducible refine Kd.C_alloc ?_ _) | (with_reducible refine Kd.C_drewN ?_ _) | (with_reducible refine Kd.C_drew ?_)))
      (case side2 => exact HC0_0.out)
      (case side3 => repeat (first | exact (Kd.C_below HR0_1.out HB.out) | (with_reducible refine Kd.C_alloc ?_ _) | (with_reducible refine Kd.C_drewN ?_ _) | (with_reducible refine Kd.C_drew ?_)))
      (case side4 => exact HC0_1.out)
      (case side5 => repeat (first | exact (Kd.C_below HR0_12.out HB.out) | (with_reducible refine Kd.C_alloc ?_ _) | (with_reducible refine Kd.C_drewN ?_ _) | (with_reducible refine Kd.C_drew ?_)))
      (case side6 => exact HC0_12.out)
      rintro e w28 ⟨rfl, hb⟩
      refine ⟨_, rfl, ?_⟩
      have n0_ := Aside0.mk (blk_below BK515.out hb)
      have n1_ := Aside0.mk (below_step (HB.out) hb)
      clear BK515
      clear HB
      have BK515 := n0_
      have HB := n1_
      clear n0_ n1_
      (try clear hb)
      (try clear hb2)
      (try clear hk)
      (try clear hi)
      refine hK.out _ _ ⟨(blk_cell BK515.out 0).trans rfl, (blk_cell BK515.out 1).trans rfl, (blk_cell BK515.out 2).trans rfl, (blk_cell BK515.out 3).trans rfl, (blk_cell BK515.out 4).trans rfl, (blk_cell BK515.out 5).trans rfl, (blk_cell BK515.out 6).trans rfl, (blk_cell BK515.out 7).trans rfl, (blk_cell BK515.out 8).trans rfl, (blk_cell BK515.out 9).trans rfl, (blk_cell BK515.out 10).trans rfl, (blk_cell BK515.out 11).trans rfl, (blk_cell BK515.out 12).trans rfl⟩ (fun hHeld => ?_)
      clear hK K
      refine norm_ (a' := ?_) ?_ ?_
      rotate_left
      ·
       show Act.put _ (some 21) _ = _
       simp only [Act.put, List.setIfInBounds_toArray, List.set_cons_zero, List.set_cons_succ, i64_w, i32_w]
       rfl
      refine one_ (i := 3) (N := some 23) #[true,true,true,true,false] rfl rfl (by kernel_rfl) (by decide) (fun K hK => ?_)
      refine goes_ Try.func9 (by kernel_rfl) rfl #[.agg #[.slice A0_0 l0_0.length c0_0, .slice A0_1 l0_1.length c0_1, .int .i64 a0_2, .int .i64 a0_3, .int .i64 a0_4, .int .i64 a0_5, .int .i64 a0_6, .int .i64 a0_7, .int .i64 a0_8, .int .i64 a0_9, .int .i64 a0_10, .int .u64 a0_11, .slice A0_12 l0_12.length c0_12]] (by rfl) rfl rfl (by (try simp only [List.map_toArray, List.map_cons, List.map_nil]); first | done | rfl | (simp only [List.length_drop, List.length_take]; rfl)) ?_
      with_reducible refine (busbarref12_Check.calls kj5 _ _ l0_0 _ _ l0_1 a0_2 a0_3 a0_4 a0_5 a0_6 a0_7 a0_8 a0_9 a0_10 a0_11 _ _ l0_12 t520 _ ?side1 ?side2 ?side3 ?side4 ?side5 ?side6 A20.out).mono ?_
      (case side1 => repeat (first | exact (Kd.C_below HR0_0.out HB.out) | (with_reducible refine Kd.C_alloc ?_ _) | (with_reducible refine Kd.C_drewN ?_ _) | (with_reducible refine Kd.C_drew ?_)))
      (case side2 => exact HC0_0.out)
      (case side3 => repeat (first | exact (Kd.C_below HR0_1.out HB.out) | (with_reducible refine Kd.C_alloc ?_ _) | (with_reducible refine Kd.C_drewN ?_ _) | (with_reducible refine Kd.C_drew ?_)))
      (case side4 => exact HC0_1.out)
      (case side5 => repeat (first | exact (Kd.C_below HR0_12.out HB.out) | (with_reducible refine Kd.C_alloc ?_ _) | (with_reducible refine Kd.C_drewN ?_ _) | (with_reducible refine Kd.C_drew ?_)))
      (case side6 => exact HC0_12.out)
      rintro e w29 ⟨rfl, hb⟩
      refine ⟨_, rfl, ?_⟩
      have n0_ := Aside0.mk (blk_below BK515.out hb)
      have n1_ := Aside0.mk (below_step (HB.out) hb)
      clear BK515
      clear HB
      have BK515 := n0_
      have HB := n1_
      clear n0_ n1_
      (try clear hb)
      (try clear hb2)
      (try clear hk)
      (try clear hi)
      refine hK.out _ _ ⟨(blk_cell BK515.out 0).trans rfl, (blk_cell BK515.out 1).trans rfl, (blk_cell BK515.out 2).trans rfl, (blk_cell BK515.out 3).trans rfl, (blk_cell BK515.out 4).trans rfl, (blk_cell BK515.out 5).trans rfl, (blk_cell BK515.out 6).trans rfl, (blk_cell BK515.out 7).trans rfl, (blk_cell BK515.out 8).trans rfl, (blk_cell BK515.out 9).trans rfl, (blk_cell BK515.out 10).trans rfl, (blk_cell BK515.out 11).trans rfl, (blk_cell BK515.out 12).trans rfl⟩ (fun hHeld => ?_)
      clear hK K
      refine norm_ (a' := ?_) ?_ ?_
      rotate_left
      ·
       show Act.put _ (some 23) _ = _
       simp only [Act.put, List.setIfInBounds_toArray, List.set_cons_zero, List.set_cons_succ, i64_w, i32_w]
       rfl
      refine pure_ (i := 4) (N := some 24) (v := ?_) (a' := ?_) #[true,true,true,true,true] rfl rfl (by kernel_rfl) (fun _ _ _ h => h) (Or.inl ⟨by rfl, ?_⟩) ?_ ?_
      rotate_left
      ·
       intro w'
       go_simp
       with_reducible rfl
      rotate_left
      ·
       simp only [Act.put, List.setIfInBounds_toArray, List.set_cons_zero, List.set_cons_succ, i64_w, i32_w]
       rfl
      refine done_ (by kernel_rfl) ?_
      go_upto_if 33 with (first | ((with_reducible refine gate_callee (f := 10) rfl ?_); refine goesL_ (some 26) rfl rfl Try.func10 (by kernel_rfl) rfl #[.slice A1 l1.length c1] rfl (by (try simp only [List.map_toArray, List.map_cons, List.map_nil]); first | done | rfl | (simp only [List.length_drop, List.length_take]; rfl)) ?_; (with_reducible refine (busbarlaw0_Conf.calls kj5 _ _ l1 t521 t524 t527 t528 t529 t530 t531 t532 t533 t534 t535 t536 t537 _ ?side1 ?side2 A22.out).mono ?_); (case side1 => repeat (first | exact (Kd.C_below HR1.out HB.out) | (with_reducible refine Kd.C_alloc ?_ _) | (with_reducible refine Kd.C_drewN ?_ _) | (with_reducible refine Kd.C_drew ?_))); (case side2 => exact HC1.out); rintro e w30 ⟨v522, v525, v538, rfl, ho0, ho1, ho2, hb⟩; refine ⟨_, rfl, ?_⟩; have HO523 := Aside0.mk (Kd.R_lower ho0 (below_size (HB.out))); have HO526 := Aside0.mk (Kd.R_lower ho1 (below_size (HB.out))); have HO539 := Aside0.mk (Kd.R_lower ho2 (below_size (HB.out))); replace BK515 := Aside0.mk (blk_below BK515.out hb); replace HB := Aside0.mk (below_step (HB.out) hb); (try clear hb); (try clear ho0); (try clear ho1); (try clear ho2)) | ((with_reducible refine gate_dst (N := 11) rfl ?_); refine box_event ?hg (N := 11) ?hd (cs := #[.slice none 0 0, .slice none 0 0, .int .i64 0, .int .i64 0, .int .i64 0, .int .i64 0, .int .i64 0, .int .i64 0, .int .i64 0, .int .i64 0, .int .i64 0, .int .u64 0, .slice none 0 0]) (t := 27) ?hr ?_; (case hd => rfl); (case hg => rfl); (case hr => first | (go_simp; done) | (go_simp; rfl)); intro gb540 hg w31 hbox hb; replace HO523 := Aside0.mk (Kd.R_below (HO523.out) hb); replace HO526 := Aside0.mk (Kd.R_below (HO526.out) hb); replace HO539 := Aside0.mk (Kd.R_below (HO539.out) hb); have BK540 := Aside0.mk (hbox); have GW540 := Aside0.mk ((by rw [hg]; exact (below_size (HB.out)) : w.heap.size ≤ gb540)); have GE540 := Aside0.mk ((by rw [hg]; exact (below_size (HB.out)) : w.heap.size ≤ gb540)); replace HB := Aside0.mk (below_step (HB.out) hb); have NB515_540 := Aside0.mk ((by rw [hg]; exact Nat.ne_of_lt (blk_lt (g := gb515) (o := .cells #[.slice A0_0 l0_0.length c0_0, .slice A0_1 l0_1.length c0_1, .int .i64 a0_2, .int .i64 a0_3, .int .i64 a0_4, .int .i64 a0_5, .int .i64 a0_6, .int .i64 a0_7, .int .i64 a0_8, .int .i64 a0_9, .int .i64 a0_10, .int .u64 a0_11, .slice A0_12 l0_12.length c0_12] 27 (0, 0)) (BK515.out)) : gb515 ≠ gb540)); have NB540_515 := Aside0.mk ((by rw [hg]; exact Nat.ne_of_gt (blk_lt (g := gb515) (o := .cells #[.slice A0_0 l0_0.length c0_0, .slice A0_1 l0_1.length c0_1, .int .i64 a0_2, .int .i64 a0_3, .int .i64 a0_4, .int .i64 a0_5, .int .i64 a0_6, .int .i64 a0_7, .int .i64 a0_8, .int .i64 a0_9, .int .i64 a0_10, .int .u64 a0_11, .slice A0_12 l0_12.length c0_12] 27 (0, 0)) (BK515.out)) : gb540 ≠ gb515)); replace BK515 := Aside0.mk (blk_below BK515.out hb); clear hb hbox hg; obtain ⟨Ao32, co32, eo32⟩ := Kd.R_slice HO523.out; subst eo32; have hnb33 := NB540_515.out; have hnc33 := NB515_540.out; obtain ⟨hcz34_0, hcz34_1, hcz34_2, hcz34_3, hcz34_4, hcz34_5, hcz34_6, hcz34_7, hcz34_8, hcz34_9, hcz34_10, hcz34_11, hcz34_12⟩ := blkc13 BK540.out; obtain ⟨hfz34_0, hfz34_1, hfz34_2, hfz34_3, hfz34_4, hfz34_5, hfz34_6, hfz34_7, hfz34_8, hfz34_9, hfz34_10, hfz34_11, hfz34_12⟩ := blkf13 BK540.out; obtain ⟨Ao35, co35, eo35⟩ := Kd.R_slice HO526.out; subst eo35; obtain ⟨Ao36, co36, eo36⟩ := Kd.R_slice HO539.out; subst eo36) | ((with_reducible refine gate_callee (f := 11) rfl ?_); refine goesL_ (some 28) rfl rfl Try.func11 (by kernel_rfl) rfl #[.slice A1 l1.length c1] rfl (by (try simp only [List.map_toArray, List.map_cons, List.map_nil]); first | done | rfl | (simp only [List.length_drop, List.length_take]; rfl)) ?_; (with_reducible refine (busbarlaw7_Objects.calls kj5 _ _ l1 t541 _ ?side1 ?side2 A23.out).mono ?_); (case side1 => exact Kd.C_below HR1.out (by repeat (first | (with_reducible first | exact HB.out | apply below_alloc | apply pw_below_drewN | apply below_drew1 | refine below_set ?_ GE515.out | refine below_set ?_ GE540.out) | exact HB.out))); (case side2 => exact HC1.out); rintro e w37 ⟨v542, rfl, ho0, hb⟩; refine ⟨_, rfl, ?_⟩; replace HO523 := Aside0.mk (Kd.R_below ((Kd.R_mono (Kd.rfR (Kd.rfR (Kd.rfR (Kd.rfR (Kd.rfR (Kd.rfR (Kd.rfR (Kd.rfR (Kd.rfR (Kd.rfR (Kd.rfR (Kd.rfR (Kd.rfR (Kd.R_types HO523.out BK540.out (by decide))))))))))))))) (fun _ h_ => h_.1))) hb); replace HO526 := Aside0.mk (Kd.R_below ((Kd.R_mono (Kd.rfR (Kd.rfR (Kd.rfR (Kd.rfR (Kd.rfR (Kd.rfR (Kd.rfR (Kd.rfR (Kd.rfR (Kd.rfR (Kd.rfR (Kd.rfR (Kd.rfR (Kd.R_types HO526.out BK540.out (by decide))))))))))))))) (fun _ h_ => h_.1))) hb); have HO543 := Aside0.mk (Kd.R_lower (Kd.R_new' ho0 (Kd.R_lt ((Kd.R_mono (Kd.rfR (Kd.rfR (Kd.rfR (Kd.rfR (Kd.rfR (Kd.rfR (Kd.rfR (Kd.rfR (Kd.rfR (Kd.rfR (Kd.rfR (Kd.rfR (Kd.rfR (Kd.R_types HO539.out BK540.out (by decide))))))))))))))) (fun _ h_ => h_.1))))) (below_size (by repeat (first | (with_reducible first | exact HB.out | apply below_alloc | apply pw_below_drewN | apply below_drew1 | refine below_set ?_ GE515.out | refine below_set ?_ GE540.out) | exact HB.out)))); replace HO539 := Aside0.mk (Kd.R_elder' ((Kd.R_mono (Kd.rfR (Kd.rfR (Kd.rfR (Kd.rfR (Kd.rfR (Kd.rfR (Kd.rfR (Kd.rfR (Kd.rfR (Kd.rfR (Kd.rfR (Kd.rfR (Kd.rfR (Kd.R_types HO539.out BK540.out (by decide))))))))))))))) (fun _ h_ => h_.1))) (Kd.R_base ho0) hb); replace BK515 := Aside0.mk (blk_below (g := gb515) (o := .cells #[.slice A0_0 l0_0.length c0_0, .slice A0_1 l0_1.length c0_1, .int .i64 a0_2, .int .i64 a0_3, .int .i64 a0_4, .int .i64 a0_5, .int .i64 a0_6, .int .i64 a0_7, .int .i64 a0_8, .int .i64 a0_9, .int .i64 a0_10, .int .u64 a0_11, .slice A0_12 l0_12.length c0_12] 27 (0, 0)) (by (with_reducible repeat (first | refine blk_drewN ?_ _ | refine blk_drew ?_ | refine blk_alloc ?_ _)); refine blk_far ?_ NB515_540.out _; (with_reducible repeat (first | refine blk_drewN ?_ _ | refine blk_drew ?_ | refine blk_alloc ?_ _)); refine blk_far ?_ NB515_540.out _; (with_reducible repeat (first | refine blk_drewN ?_ _ | refine blk_drew ?_ | refine blk_alloc ?_ _)); refine blk_far ?_ NB515_540.out _; (with_reducible repeat (first | refine blk_drewN ?_ _ | refine blk_drew ?_ | refine blk_alloc ?_ _)); refine blk_far ?_ NB515_540.out _; (with_reducible repeat (first | refine blk_drewN ?_ _ | refine blk_drew ?_ | refine blk_alloc ?_ _)); refine blk_far ?_ NB515_540.out _; (with_reducible repeat (first | refine blk_drewN ?_ _ | refine blk_drew ?_ | refine blk_alloc ?_ _)); refine blk_far ?_ NB515_540.out _; (with_reducible repeat (first | refine blk_drewN ?_ _ | refine blk_drew ?_ | refine blk_alloc ?_ _)); refine blk_far ?_ NB515_540.out _; (with_reducible repeat (first | refine blk_drewN ?_ _ | refine blk_drew ?_ | refine blk_alloc ?_ _)); refine blk_far ?_ NB515_540.out _; (with_reducible repeat (first | refine blk_drewN ?_ _ | refine blk_drew ?_ | refine blk_alloc ?_ _)); refine blk_far ?_ NB515_540.out _; (with_reducible repeat (first | refine blk_drewN ?_ _ | refine blk_drew ?_ | refine blk_alloc ?_ _)); refine blk_far ?_ NB515_540.out _; (with_reducible repeat (first | refine blk_drewN ?_ _ | refine blk_drew ?_ | refine blk_alloc ?_ _)); refine blk_far ?_ NB515_540.out _; (with_reducible repeat (first | refine blk_drewN ?_ _ | refine blk_drew ?_ | refine blk_alloc ?_ _)); refine blk_far ?_ NB515_540.out _; (with_reducible repeat (first | refine blk_drewN ?_ _ | refine blk_drew ?_ | refine blk_alloc ?_ _)); refine blk_far ?_ NB515_540.out _; (with_reducible repeat (first | refine blk_drewN ?_ _ | refine blk_drew ?_ | refine blk_alloc ?_ _)); exact BK515.out) hb); replace BK540 := Aside0.mk (blk_below (g := gb540) (o := .cells #[.slice Ao32 t521.length co32, .slice Ao35 t524.length co35, .int .i64 t527, .int .i64 t528, .int .i64 t529, .int .i64 t530, .int .i64 t531, .int .i64 t532, .int .i64 t533, .int .i64 t534, .int .i64 t535, .int .u64 t536, .slice Ao36 t537.length co36] 27 (0, 0)) (by (with_reducible repeat (first | refine blk_drewN ?_ _ | refine blk_drew ?_ | refine blk_alloc ?_ _)); refine blk_put (cs := #[.slice Ao32 t521.length co32, .slice Ao35 t524.length co35, .int .i64 t527, .int .i64 t528, .int .i64 t529, .int .i64 t530, .int .i64 t531, .int .i64 t532, .int .i64 t533, .int .i64 t534, .int .i64 t535, .int .u64 t536, .slice none 0 0]) ?_ 12 _ rfl; (with_reducible repeat (first | refine blk_drewN ?_ _ | refine blk_drew ?_ | refine blk_alloc ?_ _)); refine blk_put (cs := #[.slice Ao32 t521.length co32, .slice Ao35 t524.length co35, .int .i64 t527, .int .i64 t528, .int .i64 t529, .int .i64 t530, .int .i64 t531, .int .i64 t532, .int .i64 t533, .int .i64 t534, .int .i64 t535, .int .u64 0, .slice none 0 0]) ?_ 11 _ rfl; (with_reducible repeat (first | refine blk_drewN ?_ _ | refine blk_drew ?_ | refine blk_alloc ?_ _)); refine blk_put (cs := #[.slice Ao32 t521.length co32, .slice Ao35 t524.length co35, .int .i64 t527, .int .i64 t528, .int .i64 t529, .int .i64 t530, .int .i64 t531, .int .i64 t532, .int .i64 t533, .int .i64 t534, .int .i64 0, .int .u64 0, .slice none 0 0]) ?_ 10 _ rfl; (with_reducible repeat (first | refine blk_drewN ?_ _ | refine blk_drew ?_ | refine blk_alloc ?_ _)); refine blk_put (cs := #[.slice Ao32 t521.length co32, .slice Ao35 t524.length co35, .int .i64 t527, .int .i64 t528, .int .i64 t529, .int .i64 t530, .int .i64 t531, .int .i64 t532, .int .i64 t533, .int .i64 0, .int .i64 0, .int .u64 0, .slice none 0 0]) ?_ 9 _ rfl; (with_reducible repeat (first | refine blk_drewN ?_ _ | refine blk_drew ?_ | refine blk_alloc ?_ _)); refine blk_put (cs := #[.slice Ao32 t521.length co32, .slice Ao35 t524.length co35, .int .i64 t527, .int .i64 t528, .int .i64 t529, .int .i64 t530, .int .i64 t531, .int .i64 t532, .int .i64 0, .int .i64 0, .int .i64 0, .int .u64 0, .slice none 0 0]) ?_ 8 _ rfl; (with_reducible repeat (first | refine blk_drewN ?_ _ | refine blk_drew ?_ | refine blk_alloc ?_ _)); refine blk_put (cs := #[.slice Ao32 t521.length co32, .slice Ao35 t524.length co35, .int .i64 t527, .int .i64 t528, .int .i64 t529, .int .i64 t530, .int .i64 t531, .int .i64 0, .int .i64 0, .int .i64 0, .int .i64 0, .int .u64 0, .slice none 0 0]) ?_ 7 _ rfl; (with_reducible repeat (first | refine blk_drewN ?_ _ | refine blk_drew ?_ | refine blk_alloc ?_ _)); refine blk_put (cs := #[.slice Ao32 t521.length co32, .slice Ao35 t524.length co35, .int .i64 t527, .int .i64 t528, .int .i64 t529, .int .i64 t530, .int .i64 0, .int .i64 0, .int .i64 0, .int .i64 0, .int .i64 0, .int .u64 0, .slice none 0 0]) ?_ 6 _ rfl; (with_reducible repeat (first | refine blk_drewN ?_ _ | refine blk_drew ?_ | refine blk_alloc ?_ _)); refine blk_put (cs := #[.slice Ao32 t521.length co32, .slice Ao35 t524.length co35, .int .i64 t527, .int .i64 t528, .int .i64 t529, .int .i64 0, .int .i64 0, .int .i64 0, .int .i64 0, .int .i64 0, .int .i64 0, .int .u64 0, .slice none 0 0]) ?_ 5 _ rfl; (with_reducible repeat (first | refine blk_drewN ?_ _ | refine blk_drew ?_ | refine blk_alloc ?_ _)); refine blk_put (cs := #[.slice Ao32 t521.length co32, .slice Ao35 t524.length co35, .int .i64 t527, .int .i64 t528, .int .i64 0, .int .i64 0, .int .i64 0, .int .i64 0, .int .i64 0, .int .i64 0, .int .i64 0, .int .u64 0, .slice none 0 0]) ?_ 4 _ rfl; (with_reducible repeat (first | refine blk_drewN ?_ _ | refine blk_drew ?_ | refine blk_alloc ?_ _)); refine blk_put (cs := #[.slice Ao32 t521.length co32, .slice Ao35 t524.length co35, .int .i64 t527, .int .i64 0, .int .i64 0, .int .i64 0, .int .i64 0, .int .i64 0, .int .i64 0, .int .i64 0, .int .i64 0, .int .u64 0, .slice none 0 0]) ?_ 3 _ rfl; (with_reducible repeat (first | refine blk_drewN ?_ _ | refine blk_drew ?_ | refine blk_alloc ?_ _)); refine blk_put (cs := #[.slice Ao32 t521.length co32, .slice Ao35 t524.length co35, .int .i64 0, .int .i64 0, .int .i64 0, .int .i64 0, .int .i64 0, .int .i64 0, .int .i64 0, .int .i64 0, .int .i64 0, .int .u64 0, .slice none 0 0]) ?_ 2 _ rfl; (with_reducible repeat (first | refine blk_drewN ?_ _ | refine blk_drew ?_ | refine blk_alloc ?_ _)); refine blk_put (cs := #[.slice Ao32 t521.length co32, .slice none 0 0, .int .i64 0, .int .i64 0, .int .i64 0, .int .i64 0, .int .i64 0, .int .i64 0, .int .i64 0, .int .i64 0, .int .i64 0, .int .u64 0, .slice none 0 0]) ?_ 1 _ rfl; (with_reducible repeat (first | refine blk_drewN ?_ _ | refine blk_drew ?_ | refine blk_alloc ?_ _)); refine blk_put (cs := #[.slice none 0 0, .slice none 0 0, .int .i64 0, .int .i64 0, .int .i64 0, .int .i64 0, .int .i64 0, .int .i64 0, .int .i64 0, .int .i64 0, .int .i64 0, .int .u64 0, .slice none 0 0]) ?_ 0 _ rfl; (with_reducible repeat (first | refine blk_drewN ?_ _ | refine blk_drew ?_ | refine blk_alloc ?_ _)); exact BK540.out) hb); replace HB := Aside0.mk (below_step (by repeat (first | (with_reducible first | exact HB.out | apply below_alloc | apply pw_below_drewN | apply below_drew1 | refine below_set ?_ GE515.out | refine below_set ?_ GE540.out) | exact HB.out)) hb); (try clear hb); (try clear ho0); obtain ⟨Ao38, co38, eo38⟩ := Kd.R_slice HO543.out; subst eo38; obtain ⟨hcz39_0, hcz39_1, hcz39_2, hcz39_3, hcz39_4, hcz39_5, hcz39_6, hcz39_7, hcz39_8, hcz39_9, hcz39_10, hcz39_11, hcz39_12⟩ := blkc13 BK540.out; obtain ⟨hfz39_0, hfz39_1, hfz39_2, hfz39_3, hfz39_4, hfz39_5, hfz39_6, hfz39_7, hfz39_8, hfz39_9, hfz39_10, hfz39_11, hfz39_12⟩ := blkf13 BK540.out) | ((with_reducible refine gate_callee (f := 8) rfl ?_); refine goesL_ (some 31) rfl rfl Try.func8 (by kernel_rfl) rfl #[.agg #[.slice Ao32 t521.length co32, .slice Ao35 t524.length co35, .int .i64 t527, .int .i64 t528, .int .i64 t529, .int .i64 t530, .int .i64 t531, .int .i64 t532, .int .i64 t533, .int .i64 t534, .int .i64 t535, .int .u64 t536, .slice Ao38 t541.length co38]] rfl (by (try simp only [List.map_toArray, List.map_cons, List.map_nil]); first | done | rfl | (simp only [List.length_drop, List.length_take]; rfl)) ?_; (with_reducible refine (conf_Check.calls kj5 _ _ t521 _ _ t524 t527 t528 t529 t530 t531 t532 t533 t534 t535 t536 _ _ t541 t544 _ ?side1 ?side2 ?side3 ?side4 ?side5 ?side6 A24.out).mono ?_); (case side1 => refine (Kd.R_reads' (e := 46) (base := w.heap.size) (ok := fun k_ => True) (n := t521.length) (c := co32) ?_).2.2; exact ((Kd.R_mono (Kd.rfR (Kd.R_types HO523.out BK540.out (by decide))) (fun _ h_ => h_.1)))); (case side2 => exact (Kd.R_reads' HO523.out).2.1); (case side3 => refine (Kd.R_reads' (e := 48) (base := w.heap.size) (ok := fun k_ => True) (n := t524.length) (c := co35) ?_).2.2; exact ((Kd.R_mono (Kd.rfR (Kd.R_types HO526.out BK540.out (by decide))) (fun _ h_ => h_.1)))); (case side4 => exact (Kd.R_reads' HO526.out).2.1); (case side5 => refine (Kd.R_reads' (e := 50) (base := w.heap.size) (ok := fun k_ => (True ∧ some k_ ≠ (.slice Ao36 t537.length co36 : Value).ownBlock)) (n := t541.length) (c := co38) ?_).2.2; exact ((Kd.R_mono (Kd.rfR (Kd.R_types HO543.out BK540.out (by decide))) (fun _ h_ => h_.1)))); (case side6 => exact (Kd.R_reads' HO543.out).2.1); rintro e w40 ⟨rfl, hb⟩; refine ⟨_, rfl, ?_⟩; replace HO523 := Aside0.mk (Kd.R_below ((Kd.R_mono (Kd.rfR (Kd.R_types HO523.out BK540.out (by decide))) (fun _ h_ => h_.1))) hb); replace HO526 := Aside0.mk (Kd.R_below ((Kd.R_mono (Kd.rfR (Kd.R_types HO526.out BK540.out (by decide))) (fun _ h_ => h_.1))) hb); replace HO539 := Aside0.mk (Kd.R_below ((Kd.R_mono (Kd.rfR (Kd.R_types HO539.out BK540.out (by decide))) (fun _ h_ => h_.1))) hb); replace HO543 := Aside0.mk (Kd.R_below ((Kd.R_mono (Kd.rfR (Kd.R_types HO543.out BK540.out (by decide))) (fun _ h_ => h_.1))) hb); replace BK515 := Aside0.mk (blk_below (g := gb515) (o := .cells #[.slice A0_0 l0_0.length c0_0, .slice A0_1 l0_1.length c0_1, .int .i64 a0_2, .int .i64 a0_3, .int .i64 a0_4, .int .i64 a0_5, .int .i64 a0_6, .int .i64 a0_7, .int .i64 a0_8, .int .i64 a0_9, .int .i64 a0_10, .int .u64 a0_11, .slice A0_12 l0_12.length c0_12] 27 (0, 0)) (by (with_reducible repeat (first | refine blk_drewN ?_ _ | refine blk_drew ?_ | refine blk_alloc ?_ _)); refine blk_far ?_ NB515_540.out _; (with_reducible repeat (first | refine blk_drewN ?_ _ | refine blk_drew ?_ | refine blk_alloc ?_ _)); exact BK515.out) hb); replace BK540 := Aside0.mk (blk_below (g := gb540) (o := .cells #[.slice Ao32 t521.length co32, .slice Ao35 t524.length co35, .int .i64 t527, .int .i64 t528, .int .i64 t529, .int .i64 t530, .int .i64 t531, .int .i64 t532, .int .i64 t533, .int .i64 t534, .int .i64 t535, .int .u64 t536, .slice Ao38 t541.length co38] 27 (0, 0)) (by (with_reducible repeat (first | refine blk_drewN ?_ _ | refine blk_drew ?_ | refine blk_alloc ?_ _)); refine blk_put (cs := #[.slice Ao32 t521.length co32, .slice Ao35 t524.length co35, .int .i64 t527, .int .i64 t528, .int .i64 t529, .int .i64 t530, .int .i64 t531, .int .i64 t532, .int .i64 t533, .int .i64 t534, .int .i64 t535, .int .u64 t536, .slice Ao36 t537.length co36]) ?_ 12 _ rfl; (with_reducible repeat (first | refine blk_drewN ?_ _ | refine blk_drew ?_ | refine blk_alloc ?_ _)); exact BK540.out) hb); replace HB := Aside0.mk (below_step (by repeat (first | (with_reducible first | exact HB.out | apply below_alloc | apply pw_below_drewN | apply below_drew1 | refine below_set ?_ GE515.out | refine below_set ?_ GE540.out) | exact HB.out)) hb); (try clear hb); (try clear hi)))
      (try simp only [Act.put, List.setIfInBounds_toArray, List.set_cons_zero, List.set_cons_succ])
      go_cut [3] (fun v3 wc => ∃ (kq : Nat) (x3_25 : Int), v3 = .int .i64 x3_25 ∧ Aside0 (busbarlaw15_ConfChecks.j1 kq a2 x3_25 t521 t524 t527 t528 t529 t530 t531 t532 t533 t534 t535 t536 t541 = some r) ∧ Aside0 (kq ≤ kj5) ∧ Aside0 (Kd.R k46 46 wc w.heap.size (fun _ => True) (.slice Ao32 t521.length co32) t521) ∧ Aside0 (Kd.R k48 48 wc w.heap.size (fun _ => True) (.slice Ao35 t524.length co35) t524) ∧ Aside0 (Kd.R k50 50 wc w.heap.size (fun _ => True) (.slice Ao38 t541.length co38) t541) ∧ Aside0 (wc.heap[gb515]? = some (.cells #[(.slice A0_0 l0_0.length c0_0), (.slice A0_1 l0_1.length c0_1), .int .i64 a0_2, .int .i64 a0_3, .int .i64 a0_4, .int .i64 a0_5, .int .i64 a0_6, .int .i64 a0_7, .int .i64 a0_8, .int .i64 a0_9, .int .i64 a0_10, .int .u64 a0_11, (.slice A0_12 l0_12.length c0_12)] 27 (0, 0))) ∧ Aside0 (wc.heap[gb540]? = some (.cells #[(.slice Ao32 t521.length co32), (.slice Ao35 t524.length co35), .int .i64 t527, .int .i64 t528, .int .i64 t529, .int .i64 t530, .int .i64 t531, .int .i64 t532, .int .i64 t533, .int .i64 t534, .int .i64 t535, .int .u64 t536, (.slice Ao38 t541.length co38)] 27 (0, 0))) ∧ Aside0 (Below w.heap.size w wc))
      case first =>
       have H := HC26.out
       clear HC26
       by_cases c41 : a4 = true
       ·
        subst c41
        have H1 : ((busbarlaw0_Within.f a3 8).bind fun t545 => (if 0 ≤ t545 then (if t545 < 8 then (busbarlaw15_ConfChecks.j1 kj5 a2 (rd [0, 1, 32, 33, 259, 260, 65536, 65537] t545) t521 t524 t527 t528 t529 t530 t531 t532 t533 t534 t535 t536 t541) else (none)) else (none))) = some r := by rw [if_pos rfl] at H; exact H
        clear H
        have H := H1
        clear H1
        replace H := Option.bind_eq_some_iff.mp H
        obtain ⟨t545, A420, H⟩ := H
        have A42 := Aside0.mk A420
        clear A420
        by_cases c43 : 0 ≤ t545
        ·
         rw [if_pos c43] at H
         have c43b0 : decide (0 ≤ t545) = true := decide_eq_true c43
         clear c43
         (first | rw [c43b0] | (simp only [i64_w, i32_w]; rw [c43b0]) | skip)
         by_cases c44 : t545 < 8
         ·
          rw [if_pos c44] at H
          have c44b0 : decide (t545 < 8) = true := decide_eq_true c44
          clear c44
          have H' := Aside0.mk H
          clear H
          have hab35 := fun (a0_ a1_ a2_ a3_ a4_ a5_ a6_ a7_ : Int) (W : World) => (show (Instr.build 35 #[(0, .int .i64 a0_), (1, .int .i64 a1_), (2, .int .i64 a2_), (3, .int .i64 a3_), (4, .int .i64 a4_), (5, .int .i64 a5_), (6, .int .i64 a6_), (7, .int .i64 a7_)]).run Try.prog W = .ok (.agg #[.int .i64 a0_, .int .i64 a1_, .int .i64 a2_, .int .i64 a3_, .int .i64 a4_, .int .i64 a5_, .int .i64 a6_, .int .i64 a7_]) W from by kernel_rfl)
          go_wp2_with (first | ((with_reducible refine gate_callee (f := 12) rfl ?_); refine goesL_ (some 36) rfl rfl Try.func12 (by kernel_rfl) rfl #[.int .i64 a3, .int .i64 8] rfl (by (try simp only [List.map_toArray, List.map_cons, List.map_nil]); first | done | rfl | (simp only [List.length_drop, List.length_take]; rfl)) ?_; (with_reducible refine (busbarlaw0_Within.calls a3 8 t545 _ A42.out).mono ?_); rintro e w' ⟨rfl, ⟨nd, rfl⟩⟩; refine ⟨_, rfl, ?_⟩; have hai546 : ∀ (a0_ a1_ a2_ a3_ a4_ a5_ a6_ a7_ : Int) (W : World), (Instr.index 35 (.agg #[.int .i64 a0_, .int .i64 a1_, .int .i64 a2_, .int .i64 a3_, .int .i64 a4_, .int .i64 a5_, .int .i64 a6_, .int .i64 a7_]) (.int .i64 t545)).run Try.prog W = .ok (.int .i64 (rd [a0_, a1_, a2_, a3_, a4_, a5_, a6_, a7_] t545)) W := (by have h0_ : 0 ≤ (t545 : Int) := of_decide_eq_true (by first | rfl | (with_reducible assumption) | assumption); have h1_ : (t545 : Int) < 8 := of_decide_eq_true (by first | rfl | (with_reducible assumption) | assumption); intro a0_ a1_ a2_ a3_ a4_ a5_ a6_ a7_ W; obtain h_ | h_ | h_ | h_ | h_ | h_ | h_ | h_ : (t545 : Int) = 0 ∨ (t545 : Int) = 1 ∨ (t545 : Int) = 2 ∨ (t545 : Int) = 3 ∨ (t545 : Int) = 4 ∨ (t545 : Int) = 5 ∨ (t545 : Int) = 6 ∨ (t545 : Int) = 7 := (by omega); all_goals (rw [h_]; kernel_rfl))))
          go_meet
          case rel => exact ⟨_, (rd [0, 1, 32, 33, 259, 260, 65536, 65537] t545), (by first | rfl | (simp; done) | (simp [*]; done)), H', ⟨by have := HJ5.out; first | omega | exact Nat.le_refl _⟩, ⟨by (with_reducible repeat (first | apply Kd.R_alloc | apply Kd.R_drewN | apply Kd.R_drew)); exact HO523.out⟩, ⟨by (with_reducible repeat (first | apply Kd.R_alloc | apply Kd.R_drewN | apply Kd.R_drew)); exact HO526.out⟩, ⟨by (with_reducible repeat (first | apply Kd.R_alloc | apply Kd.R_drewN | apply Kd.R_drew)); exact Kd.R_mono HO543.out (fun _ hk => trivial)⟩, ⟨by (with_reducible repeat (first | refine blk_drewN ?_ _ | refine blk_drew ?_ | refine blk_alloc ?_ _)); exact BK515.out⟩, ⟨by (with_reducible repeat (first | refine blk_drewN ?_ _ | refine blk_drew ?_ | refine blk_alloc ?_ _)); exact BK540.out⟩, ⟨by repeat (first | (with_reducible first | exact HB.out | apply below_alloc | apply pw_below_drewN | apply below_drew1 | refine below_set ?_ GE515.out | refine below_set ?_ GE540.out) | exact HB.out)⟩⟩
         ·
          rw [if_neg c44] at H
          exact absurd H (by simp)
        ·
         rw [if_neg c43] at H
         exact absurd H (by simp)
       ·
        replace c41 := Bool.eq_false_iff.mpr c41
        subst c41
        have H1 : (busbarlaw15_ConfChecks.j1 kj5 a2 a3 t521 t524 t527 t528 t529 t530 t531 t532 t533 t534 t535 t536 t541) = some r := by rw [if_neg (show ¬ (false = true) by decide)] at H; exact H
        clear H
        have H := H1
        clear H1
        have H' := Aside0.mk H
        clear H
        go_wp2
        go_meet
        case rel => exact ⟨_, (a3), (by first | rfl | (simp; done) | (simp [*]; done)), H', ⟨by have := HJ5.out; first | omega | exact Nat.le_refl _⟩, ⟨HO523.out⟩, ⟨HO526.out⟩, ⟨Kd.R_mono HO543.out (fun _ hk => trivial)⟩, ⟨BK515.out⟩, ⟨BK540.out⟩, ⟨HB.out⟩⟩
      case rest =>
       clear HC26
       (try clear c21b0); (try clear c21b1); (try clear c25b0); (try clear c25b1); (try clear hcz34_0); (try clear hcz34_1); (try clear hcz34_10); (try clear hcz34_11); (try clear hcz34_12); (try clear hcz34_2); (try clear hcz34_3); (try clear hcz34_4); (try clear hcz34_5); (try clear hcz34_6); (try clear hcz34_7); (try clear hcz34_8); (try clear hcz34_9); (try clear hcz39_0); (try clear hcz39_1); (try clear hcz39_10); (try clear hcz39_11); (try clear hcz39_12); (try clear hcz39_2); (try clear hcz39_3); (try clear hcz39_4); (try clear hcz39_5); (try clear hcz39_6); (try clear hcz39_7); (try clear hcz39_8); (try clear hcz39_9); (try clear hfz34_0); (try clear hfz34_1); (try clear hfz34_10); (try clear hfz34_11); (try clear hfz34_12); (try clear hfz34_2); (try clear hfz34_3); (try clear hfz34_4); (try clear hfz34_5); (try clear hfz34_6); (try clear hfz34_7); (try clear hfz34_8); (try clear hfz34_9); (try clear hfz39_0); (try clear hfz39_1); (try clear hfz39_10); (try clear hfz39_11); (try clear hfz39_12); (try clear hfz39_2); (try clear hfz39_3); (try clear hfz39_4); (try clear hfz39_5); (try clear hfz39_6); (try clear hfz39_7); (try clear hfz39_8); (try clear hfz39_9)
       obtain ⟨kq, x3_25, rfl, HA, HJ25, HO_541000, HO_541001, HO_541012, BK515, BK540, HB⟩ := hcut
       cases kq with
       | zero => exact absurd HA.out (by simp [busbarlaw15_ConfChecks.j1])
       | succ kj25 =>
        have H := HA.out
        clear HA
        simp only [busbarlaw15_ConfChecks.j1] at H
        replace H := Option.bind_eq_some_iff.mp H
        obtain ⟨t547, A450, H⟩ := H
        have A45 := Aside0.mk A450
        clear A450
        have HC46 := Aside0.mk H
        clear H
        go_upto_block 0 with (first | ((with_reducible refine gate_callee (f := 12) rfl ?_); refine goesL_ (some 39) rfl rfl Try.func12 (by kernel_rfl) rfl #[.int .i64 a2, .int .i64 9] rfl (by (try simp only [List.map_toArray, List.map_cons, List.map_nil]); first | done | rfl | (simp only [List.length_drop, List.length_take]; rfl)) ?_; (with_reducible refine (busbarlaw0_Within.calls a2 9 t547 _ A45.out).mono ?_); rintro e w' ⟨rfl, ⟨nd, rfl⟩⟩; refine ⟨_, rfl, ?_⟩))
        (try simp only [Act.put, List.setIfInBounds_toArray, List.set_cons_zero, List.set_cons_succ])
        go_cut [] (fun wc => ∃ (kq : Nat) (x541002_45 : Int) (x541003_45 : Int) (x541004_45 : Int) (x541005_45 : Int) (x541006_45 : Int) (x541007_45 : Int) (x541008_45 : Int) (x541009_45 : Int) (x541010_45 : Int), Aside0 (busbarlaw15_ConfChecks.j2 kq t521 t524 x541002_45 x541003_45 x541004_45 x541005_45 x541006_45 x541007_45 x541008_45 x541009_45 x541010_45 t536 t541 = some r) ∧ Aside0 (kq ≤ kj25) ∧ Aside0 (Kd.R k46 46 wc w.heap.size (fun _ => True) (.slice Ao32 t521.length co32) t521) ∧ Aside0 (Kd.R k48 48 wc w.heap.size (fun _ => True) (.slice Ao35 t524.length co35) t524) ∧ Aside0 (Kd.R k50 50 wc w.heap.size (fun _ => True) (.slice Ao38 t541.length co38) t541) ∧ Aside0 (wc.heap[gb515]? = some (.cells #[(.slice A0_0 l0_0.length c0_0), (.slice A0_1 l0_1.length c0_1), .int .i64 a0_2, .int .i64 a0_3, .int .i64 a0_4, .int .i64 a0_5, .int .i64 a0_6, .int .i64 a0_7, .int .i64 a0_8, .int .i64 a0_9, .int .i64 a0_10, .int .u64 a0_11, (.slice A0_12 l0_12.length c0_12)] 27 (0, 0))) ∧ Aside0 (wc.heap[gb540]? = some (.cells #[(.slice Ao32 t521.length co32), (.slice Ao35 t524.length co35), .int .i64 x541002_45, .int .i64 x541003_45, .int .i64 x541004_45, .int .i64 x541005_45, .int .i64 x541006_45, .int .i64 x541007_45, .int .i64 x541008_45, .int .i64 x541009_45, .int .i64 x541010_45, .int .u64 t536, (.slice Ao38 t541.length co38)] 27 (0, 0))) ∧ Aside0 (Below w.heap.size w wc))
        case first =>
         have H := HC46.out
         clear HC46
         by_cases c47 : t547 = 0
         ·
          rw [if_pos c47] at H
          have c47b0 : (t547 == 0) = true := beq_iff_eq.mpr c47
          have c47b1 : (t547 != 0) = false := bne_eq_false_iff_eq.mpr c47
          clear c47
          (first | rw [c47b0] | (simp only [i64_w, i32_w]; rw [c47b0]) | skip)
          have H' := Aside0.mk H
          clear H
          have hnb48 := NB540_515.out
          have hnc48 := NB515_540.out
          obtain ⟨hcz49_0, hcz49_1, hcz49_2, hcz49_3, hcz49_4, hcz49_5, hcz49_6, hcz49_7, hcz49_8, hcz49_9, hcz49_10, hcz49_11, hcz49_12⟩ := blkc13 BK540.out
          obtain ⟨hfz49_0, hfz49_1, hfz49_2, hfz49_3, hfz49_4, hfz49_5, hfz49_6, hfz49_7, hfz49_8, hfz49_9, hfz49_10, hfz49_11, hfz49_12⟩ := blkf13 BK540.out
          go_wp2
          go_meet
          case rel => exact ⟨_, (x3_25), (t528), (t529), (t530), (t531), (t532), (t533), (t534), (t535), H', ⟨by have := HJ5.out; have := HJ25.out; first | omega | exact Nat.le_refl _⟩, ⟨by (with_reducible repeat (first | apply Kd.R_alloc | apply Kd.R_drewN | apply Kd.R_drew)); exact Kd.R_mono (Kd.rfR (Kd.R_types HO_541000.out BK540.out (by decide))) (fun _ hk => trivial)⟩, ⟨by (with_reducible repeat (first | apply Kd.R_alloc | apply Kd.R_drewN | apply Kd.R_drew)); exact Kd.R_mono (Kd.rfR (Kd.R_types HO_541001.out BK540.out (by decide))) (fun _ hk => trivial)⟩, ⟨by (with_reducible repeat (first | apply Kd.R_alloc | apply Kd.R_drewN | apply Kd.R_drew)); exact Kd.R_mono (Kd.rfR (Kd.R_types HO_541012.out BK540.out (by decide))) (fun _ hk => trivial)⟩, ⟨by (with_reducible repeat (first | refine blk_drewN ?_ _ | refine blk_drew ?_ | refine blk_alloc ?_ _)); refine blk_far ?_ NB515_540.out _; (with_reducible repeat (first | refine blk_drewN ?_ _ | refine blk_drew ?_ | refine blk_alloc ?_ _)); exact BK515.out⟩, ⟨by (with_reducible repeat (first | refine blk_drewN ?_ _ | refine blk_drew ?_ | refine blk_alloc ?_ _)); refine blk_put (cs := #[.slice Ao32 t521.length co32, .slice Ao35 t524.length co35, .int .i64 t527, .int .i64 t528, .int .i64 t529, .int .i64 t530, .int .i64 t531, .int .i64 t532, .int .i64 t533, .int .i64 t534, .int .i64 t535, .int .u64 t536, .slice Ao38 t541.length co38]) ?_ 2 _ rfl; (with_reducible repeat (first | refine blk_drewN ?_ _ | refine blk_drew ?_ | refine blk_alloc ?_ _)); exact BK540.out⟩, ⟨by repeat (first | (with_reducible first | exact HB.out | apply below_alloc | apply pw_below_drewN | apply below_drew1 | refine below_set ?_ GE515.out | refine below_set ?_ GE540.out) | exact HB.out)⟩⟩
         ·
          rw [if_neg c47] at H
          have c47b0 : (t547 == 0) = false := beq_eq_false_iff_ne.mpr c47
          have c47b1 : (t547 != 0) = true := bne_iff_ne.mpr c47
          (first | rw [c47b0] | (simp only [i64_w, i32_w]; rw [c47b0]) | skip)
          by_cases c50 : t547 = 1
          ·
           rw [if_pos c50] at H
           have c50b0 : (t547 == 1) = true := beq_iff_eq.mpr c50
           have c50b1 : (t547 != 1) = false := bne_eq_false_iff_eq.mpr c50
           clear c50
           have H' := Aside0.mk H
           clear H
           have hnb51 := NB540_515.out
           have hnc51 := NB515_540.out
           obtain ⟨hcz52_0, hcz52_1, hcz52_2, hcz52_3, hcz52_4, hcz52_5, hcz52_6, hcz52_7, hcz52_8, hcz52_9, hcz52_10, hcz52_11, hcz52_12⟩ := blkc13 BK540.out
           obtain ⟨hfz52_0, hfz52_1, hfz52_2, hfz52_3, hfz52_4, hfz52_5, hfz52_6, hfz52_7, hfz52_8, hfz52_9, hfz52_10, hfz52_11, hfz52_12⟩ := blkf13 BK540.out
           go_wp2
           go_meet
           case rel => exact ⟨_, (t527), (x3_25), (t529), (t530), (t531), (t532), (t533), (t534), (t535), H', ⟨by have := HJ5.out; have := HJ25.out; first | omega | exact Nat.le_refl _⟩, ⟨by (with_reducible repeat (first | apply Kd.R_alloc | apply Kd.R_drewN | apply Kd.R_drew)); exact Kd.R_mono (Kd.rfR (Kd.R_types HO_541000.out BK540.out (by decide))) (fun _ hk => trivial)⟩, ⟨by (with_reducible repeat (first | apply Kd.R_alloc | apply Kd.R_drewN | apply Kd.R_drew)); exact Kd.R_mono (Kd.rfR (Kd.R_types HO_541001.out BK540.out (by decide))) (fun _ hk => trivial)⟩, ⟨by (with_reducible repeat (first | apply Kd.R_alloc | apply Kd.R_drewN | apply Kd.R_drew)); exact Kd.R_mono (Kd.rfR (Kd.R_types HO_541012.out BK540.out (by decide))) (fun _ hk => trivial)⟩, ⟨by (with_reducible repeat (first | refine blk_drewN ?_ _ | refine blk_drew ?_ | refine blk_alloc ?_ _)); refine blk_far ?_ NB515_540.out _; (with_reducible repeat (first | refine blk_drewN ?_ _ | refine blk_drew ?_ | refine blk_alloc ?_ _)); exact BK515.out⟩, ⟨by (with_reducible repeat (first | refine blk_drewN ?_ _ | refine blk_drew ?_ | refine blk_alloc ?_ _)); refine blk_put (cs := #[.slice Ao32 t521.length co32, .slice Ao35 t524.length co35, .int .i64 t527, .int .i64 t528, .int .i64 t529, .int .i64 t530, .int .i64 t531, .int .i64 t532, .int .i64 t533, .int .i64 t534, .int .i64 t535, .int .u64 t536, .slice Ao38 t541.length co38]) ?_ 3 _ rfl; (with_reducible repeat (first | refine blk_drewN ?_ _ | refine blk_drew ?_ | refine blk_alloc ?_ _)); exact BK540.out⟩, ⟨by repeat (first | (with_reducible first | exact HB.out | apply below_alloc | apply pw_below_drewN | apply below_drew1 | refine below_set ?_ GE515.out | refine below_set ?_ GE540.out) | exact HB.out)⟩⟩
          ·
           rw [if_neg c50] at H
           have c50b0 : (t547 == 1) = false := beq_eq_false_iff_ne.mpr c50
           have c50b1 : (t547 != 1) = true := bne_iff_ne.mpr c50
           by_cases c53 : t547 = 2
           ·
            rw [if_pos c53] at H
            have c53b0 : (t547 == 2) = true := beq_iff_eq.mpr c53
            have c53b1 : (t547 != 2) = false := bne_eq_false_iff_eq.mpr c53
            clear c53
            have H' := Aside0.mk H
            clear H
            have hnb54 := NB540_515.out
            have hnc54 := NB515_540.out
            obtain ⟨hcz55_0, hcz55_1, hcz55_2, hcz55_3, hcz55_4, hcz55_5, hcz55_6, hcz55_7, hcz55_8, hcz55_9, hcz55_10, hcz55_11, hcz55_12⟩ := blkc13 BK540.out
            obtain ⟨hfz55_0, hfz55_1, hfz55_2, hfz55_3, hfz55_4, hfz55_5, hfz55_6, hfz55_7, hfz55_8, hfz55_9, hfz55_10, hfz55_11, hfz55_12⟩ := blkf13 BK540.out
            go_wp2
            go_meet
            case rel => exact ⟨_, (t527), (t528), (x3_25), (t530), (t531), (t532), (t533), (t534), (t535), H', ⟨by have := HJ5.out; have := HJ25.out; first | omega | exact Nat.le_refl _⟩, ⟨by (with_reducible repeat (first | apply Kd.R_alloc | apply Kd.R_drewN | apply Kd.R_drew)); exact Kd.R_mono (Kd.rfR (Kd.R_types HO_541000.out BK540.out (by decide))) (fun _ hk => trivial)⟩, ⟨by (with_reducible repeat (first | apply Kd.R_alloc | apply Kd.R_drewN | apply Kd.R_drew)); exact Kd.R_mono (Kd.rfR (Kd.R_types HO_541001.out BK540.out (by decide))) (fun _ hk => trivial)⟩, ⟨by (with_reducible repeat (first | apply Kd.R_alloc | apply Kd.R_drewN | apply Kd.R_drew)); exact Kd.R_mono (Kd.rfR (Kd.R_types HO_541012.out BK540.out (by decide))) (fun _ hk => trivial)⟩, ⟨by (with_reducible repeat (first | refine blk_drewN ?_ _ | refine blk_drew ?_ | refine blk_alloc ?_ _)); refine blk_far ?_ NB515_540.out _; (with_reducible repeat (first | refine blk_drewN ?_ _ | refine blk_drew ?_ | refine blk_alloc ?_ _)); exact BK515.out⟩, ⟨by (with_reducible repeat (first | refine blk_drewN ?_ _ | refine blk_drew ?_ | refine blk_alloc ?_ _)); refine blk_put (cs := #[.slice Ao32 t521.length co32, .slice Ao35 t524.length co35, .int .i64 t527, .int .i64 t528, .int .i64 t529, .int .i64 t530, .int .i64 t531, .int .i64 t532, .int .i64 t533, .int .i64 t534, .int .i64 t535, .int .u64 t536, .slice Ao38 t541.length co38]) ?_ 4 _ rfl; (with_reducible repeat (first | refine blk_drewN ?_ _ | refine blk_drew ?_ | refine blk_alloc ?_ _)); exact BK540.out⟩, ⟨by repeat (first | (with_reducible first | exact HB.out | apply below_alloc | apply pw_below_drewN | apply below_drew1 | refine below_set ?_ GE515.out | refine below_set ?_ GE540.out) | exact HB.out)⟩⟩
           ·
            rw [if_neg c53] at H
            have c53b0 : (t547 == 2) = false := beq_eq_false_iff_ne.mpr c53
            have c53b1 : (t547 != 2) = true := bne_iff_ne.mpr c53
            by_cases c56 : t547 = 3
            ·
             rw [if_pos c56] at H
             have c56b0 : (t547 == 3) = true := beq_iff_eq.mpr c56
             have c56b1 : (t547 != 3) = false := bne_eq_false_iff_eq.mpr c56
             clear c56
             have H' := Aside0.mk H
             clear H
             have hnb57 := NB540_515.out
             have hnc57 := NB515_540.out
             obtain ⟨hcz58_0, hcz58_1, hcz58_2, hcz58_3, hcz58_4, hcz58_5, hcz58_6, hcz58_7, hcz58_8, hcz58_9, hcz58_10, hcz58_11, hcz58_12⟩ := blkc13 BK540.out
             obtain ⟨hfz58_0, hfz58_1, hfz58_2, hfz58_3, hfz58_4, hfz58_5, hfz58_6, hfz58_7, hfz58_8, hfz58_9, hfz58_10, hfz58_11, hfz58_12⟩ := blkf13 BK540.out
             go_wp2
             go_meet
             case rel => exact ⟨_, (t527), (t528), (t529), (x3_25), (t531), (t532), (t533), (t534), (t535), H', ⟨by have := HJ5.out; have := HJ25.out; first | omega | exact Nat.le_refl _⟩, ⟨by (with_reducible repeat (first | apply Kd.R_alloc | apply Kd.R_drewN | apply Kd.R_drew)); exact Kd.R_mono (Kd.rfR (Kd.R_types HO_541000.out BK540.out (by decide))) (fun _ hk => trivial)⟩, ⟨by (with_reducible repeat (first | apply Kd.R_alloc | apply Kd.R_drewN | apply Kd.R_drew)); exact Kd.R_mono (Kd.rfR (Kd.R_types HO_541001.out BK540.out (by decide))) (fun _ hk => trivial)⟩, ⟨by (with_reducible repeat (first | apply Kd.R_alloc | apply Kd.R_drewN | apply Kd.R_drew)); exact Kd.R_mono (Kd.rfR (Kd.R_types HO_541012.out BK540.out (by decide))) (fun _ hk => trivial)⟩, ⟨by (with_reducible repeat (first | refine blk_drewN ?_ _ | refine blk_drew ?_ | refine blk_alloc ?_ _)); refine blk_far ?_ NB515_540.out _; (with_reducible repeat (first | refine blk_drewN ?_ _ | refine blk_drew ?_ | refine blk_alloc ?_ _)); exact BK515.out⟩, ⟨by (with_reducible repeat (first | refine blk_drewN ?_ _ | refine blk_drew ?_ | refine blk_alloc ?_ _)); refine blk_put (cs := #[.slice Ao32 t521.length co32, .slice Ao35 t524.length co35, .int .i64 t527, .int .i64 t528, .int .i64 t529, .int .i64 t530, .int .i64 t531, .int .i64 t532, .int .i64 t533, .int .i64 t534, .int .i64 t535, .int .u64 t536, .slice Ao38 t541.length co38]) ?_ 5 _ rfl; (with_reducible repeat (first | refine blk_drewN ?_ _ | refine blk_drew ?_ | refine blk_alloc ?_ _)); exact BK540.out⟩, ⟨by repeat (first | (with_reducible first | exact HB.out | apply below_alloc | apply pw_below_drewN | apply below_drew1 | refine below_set ?_ GE515.out | refine below_set ?_ GE540.out) | exact HB.out)⟩⟩
            ·
             rw [if_neg c56] at H
             have c56b0 : (t547 == 3) = false := beq_eq_false_iff_ne.mpr c56
             have c56b1 : (t547 != 3) = true := bne_iff_ne.mpr c56
             by_cases c59 : t547 = 4
             ·
              rw [if_pos c59] at H
              have c59b0 : (t547 == 4) = true := beq_iff_eq.mpr c59
              have c59b1 : (t547 != 4) = false := bne_eq_false_iff_eq.mpr c59
              clear c59
              have H' := Aside0.mk H
              clear H
              have hnb60 := NB540_515.out
              have hnc60 := NB515_540.out
              obtain ⟨hcz61_0, hcz61_1, hcz61_2, hcz61_3, hcz61_4, hcz61_5, hcz61_6, hcz61_7, hcz61_8, hcz61_9, hcz61_10, hcz61_11, hcz61_12⟩ := blkc13 BK540.out
              obtain ⟨hfz61_0, hfz61_1, hfz61_2, hfz61_3, hfz61_4, hfz61_5, hfz61_6, hfz61_7, hfz61_8, hfz61_9, hfz61_10, hfz61_11, hfz61_12⟩ := blkf13 BK540.out
              go_wp2
              go_meet
              case rel => exact ⟨_, (t527), (t528), (t529), (t530), (x3_25), (t532), (t533), (t534), (t535), H', ⟨by have := HJ5.out; have := HJ25.out; first | omega | exact Nat.le_refl _⟩, ⟨by (with_reducible repeat (first | apply Kd.R_alloc | apply Kd.R_drewN | apply Kd.R_drew)); exact Kd.R_mono (Kd.rfR (Kd.R_types HO_541000.out BK540.out (by decide))) (fun _ hk => trivial)⟩, ⟨by (with_reducible repeat (first | apply Kd.R_alloc | apply Kd.R_drewN | apply Kd.R_drew)); exact Kd.R_mono (Kd.rfR (Kd.R_types HO_541001.out BK540.out (by decide))) (fun _ hk => trivial)⟩, ⟨by (with_reducible repeat (first | apply Kd.R_alloc | apply Kd.R_drewN | apply Kd.R_drew)); exact Kd.R_mono (Kd.rfR (Kd.R_types HO_541012.out BK540.out (by decide))) (fun _ hk => trivial)⟩, ⟨by (with_reducible repeat (first | refine blk_drewN ?_ _ | refine blk_drew ?_ | refine blk_alloc ?_ _)); refine blk_far ?_ NB515_540.out _; (with_reducible repeat (first | refine blk_drewN ?_ _ | refine blk_drew ?_ | refine blk_alloc ?_ _)); exact BK515.out⟩, ⟨by (with_reducible repeat (first | refine blk_drewN ?_ _ | refine blk_drew ?_ | refine blk_alloc ?_ _)); refine blk_put (cs := #[.slice Ao32 t521.length co32, .slice Ao35 t524.length co35, .int .i64 t527, .int .i64 t528, .int .i64 t529, .int .i64 t530, .int .i64 t531, .int .i64 t532, .int .i64 t533, .int .i64 t534, .int .i64 t535, .int .u64 t536, .slice Ao38 t541.length co38]) ?_ 6 _ rfl; (with_reducible repeat (first | refine blk_drewN ?_ _ | refine blk_drew ?_ | refine blk_alloc ?_ _)); exact BK540.out⟩, ⟨by repeat (first | (with_reducible first | exact HB.out | apply below_alloc | apply pw_below_drewN | apply below_drew1 | refine below_set ?_ GE515.out | refine below_set ?_ GE540.out) | exact HB.out)⟩⟩
             ·
              rw [if_neg c59] at H
              have c59b0 : (t547 == 4) = false := beq_eq_false_iff_ne.mpr c59
              have c59b1 : (t547 != 4) = true := bne_iff_ne.mpr c59
              by_cases c62 : t547 = 5
              ·
               rw [if_pos c62] at H
               have c62b0 : (t547 == 5) = true := beq_iff_eq.mpr c62
               have c62b1 : (t547 != 5) = false := bne_eq_false_iff_eq.mpr c62
               clear c62
               have H' := Aside0.mk H
               clear H
               have hnb63 := NB540_515.out
               have hnc63 := NB515_540.out
               obtain ⟨hcz64_0, hcz64_1, hcz64_2, hcz64_3, hcz64_4, hcz64_5, hcz64_6, hcz64_7, hcz64_8, hcz64_9, hcz64_10, hcz64_11, hcz64_12⟩ := blkc13 BK540.out
               obtain ⟨hfz64_0, hfz64_1, hfz64_2, hfz64_3, hfz64_4, hfz64_5, hfz64_6, hfz64_7, hfz64_8, hfz64_9, hfz64_10, hfz64_11, hfz64_12⟩ := blkf13 BK540.out
               go_wp2
               go_meet
               case rel => exact ⟨_, (t527), (t528), (t529), (t530), (t531), (x3_25), (t533), (t534), (t535), H', ⟨by have := HJ5.out; have := HJ25.out; first | omega | exact Nat.le_refl _⟩, ⟨by (with_reducible repeat (first | apply Kd.R_alloc | apply Kd.R_drewN | apply Kd.R_drew)); exact Kd.R_mono (Kd.rfR (Kd.R_types HO_541000.out BK540.out (by decide))) (fun _ hk => trivial)⟩, ⟨by (with_reducible repeat (first | apply Kd.R_alloc | apply Kd.R_drewN | apply Kd.R_drew)); exact Kd.R_mono (Kd.rfR (Kd.R_types HO_541001.out BK540.out (by decide))) (fun _ hk => trivial)⟩, ⟨by (with_reducible repeat (first | apply Kd.R_alloc | apply Kd.R_drewN | apply Kd.R_drew)); exact Kd.R_mono (Kd.rfR (Kd.R_types HO_541012.out BK540.out (by decide))) (fun _ hk => trivial)⟩, ⟨by (with_reducible repeat (first | refine blk_drewN ?_ _ | refine blk_drew ?_ | refine blk_alloc ?_ _)); refine blk_far ?_ NB515_540.out _; (with_reducible repeat (first | refine blk_drewN ?_ _ | refine blk_drew ?_ | refine blk_alloc ?_ _)); exact BK515.out⟩, ⟨by (with_reducible repeat (first | refine blk_drewN ?_ _ | refine blk_drew ?_ | refine blk_alloc ?_ _)); refine blk_put (cs := #[.slice Ao32 t521.length co32, .slice Ao35 t524.length co35, .int .i64 t527, .int .i64 t528, .int .i64 t529, .int .i64 t530, .int .i64 t531, .int .i64 t532, .int .i64 t533, .int .i64 t534, .int .i64 t535, .int .u64 t536, .slice Ao38 t541.length co38]) ?_ 7 _ rfl; (with_reducible repeat (first | refine blk_drewN ?_ _ | refine blk_drew ?_ | refine blk_alloc ?_ _)); exact BK540.out⟩, ⟨by repeat (first | (with_reducible first | exact HB.out | apply below_alloc | apply pw_below_drewN | apply below_drew1 | refine below_set ?_ GE515.out | refine below_set ?_ GE540.out) | exact HB.out)⟩⟩
              ·
               rw [if_neg c62] at H
               have c62b0 : (t547 == 5) = false := beq_eq_false_iff_ne.mpr c62
               have c62b1 : (t547 != 5) = true := bne_iff_ne.mpr c62
               by_cases c65 : t547 = 6
               ·
                rw [if_pos c65] at H
                have c65b0 : (t547 == 6) = true := beq_iff_eq.mpr c65
                have c65b1 : (t547 != 6) = false := bne_eq_false_iff_eq.mpr c65
                clear c65
                have H' := Aside0.mk H
                clear H
                have hnb66 := NB540_515.out
                have hnc66 := NB515_540.out
                obtain ⟨hcz67_0, hcz67_1, hcz67_2, hcz67_3, hcz67_4, hcz67_5, hcz67_6, hcz67_7, hcz67_8, hcz67_9, hcz67_10, hcz67_11, hcz67_12⟩ := blkc13 BK540.out
                obtain ⟨hfz67_0, hfz67_1, hfz67_2, hfz67_3, hfz67_4, hfz67_5, hfz67_6, hfz67_7, hfz67_8, hfz67_9, hfz67_10, hfz67_11, hfz67_12⟩ := blkf13 BK540.out
                go_wp2
                go_meet
                case rel => exact ⟨_, (t527), (t528), (t529), (t530), (t531), (t532), (x3_25), (t534), (t535), H', ⟨by have := HJ5.out; have := HJ25.out; first | omega | exact Nat.le_refl _⟩, ⟨by (with_reducible repeat (first | apply Kd.R_alloc | apply Kd.R_drewN | apply Kd.R_drew)); exact Kd.R_mono (Kd.rfR (Kd.R_types HO_541000.out BK540.out (by decide))) (fun _ hk => trivial)⟩, ⟨by (with_reducible repeat (first | apply Kd.R_alloc | apply Kd.R_drewN | apply Kd.R_drew)); exact Kd.R_mono (Kd.rfR (Kd.R_types HO_541001.out BK540.out (by decide))) (fun _ hk => trivial)⟩, ⟨by (with_reducible repeat (first | apply Kd.R_alloc | apply Kd.R_drewN | apply Kd.R_drew)); exact Kd.R_mono (Kd.rfR (Kd.R_types HO_541012.out BK540.out (by decide))) (fun _ hk => trivial)⟩, ⟨by (with_reducible repeat (first | refine blk_drewN ?_ _ | refine blk_drew ?_ | refine blk_alloc ?_ _)); refine blk_far ?_ NB515_540.out _; (with_reducible repeat (first | refine blk_drewN ?_ _ | refine blk_drew ?_ | refine blk_alloc ?_ _)); exact BK515.out⟩, ⟨by (with_reducible repeat (first | refine blk_drewN ?_ _ | refine blk_drew ?_ | refine blk_alloc ?_ _)); refine blk_put (cs := #[.slice Ao32 t521.length co32, .slice Ao35 t524.length co35, .int .i64 t527, .int .i64 t528, .int .i64 t529, .int .i64 t530, .int .i64 t531, .int .i64 t532, .int .i64 t533, .int .i64 t534, .int .i64 t535, .int .u64 t536, .slice Ao38 t541.length co38]) ?_ 8 _ rfl; (with_reducible repeat (first | refine blk_drewN ?_ _ | refine blk_drew ?_ | refine blk_alloc ?_ _)); exact BK540.out⟩, ⟨by repeat (first | (with_reducible first | exact HB.out | apply below_alloc | apply pw_below_drewN | apply below_drew1 | refine below_set ?_ GE515.out | refine below_set ?_ GE540.out) | exact HB.out)⟩⟩
               ·
                rw [if_neg c65] at H
                have c65b0 : (t547 == 6) = false := beq_eq_false_iff_ne.mpr c65
                have c65b1 : (t547 != 6) = true := bne_iff_ne.mpr c65
                by_cases c68 : t547 = 7
                ·
                 rw [if_pos c68] at H
                 have c68b0 : (t547 == 7) = true := beq_iff_eq.mpr c68
                 have c68b1 : (t547 != 7) = false := bne_eq_false_iff_eq.mpr c68
                 clear c68
                 have H' := Aside0.mk H
                 clear H
                 have hnb69 := NB540_515.out
                 have hnc69 := NB515_540.out
                 obtain ⟨hcz70_0, hcz70_1, hcz70_2, hcz70_3, hcz70_4, hcz70_5, hcz70_6, hcz70_7, hcz70_8, hcz70_9, hcz70_10, hcz70_11, hcz70_12⟩ := blkc13 BK540.out
                 obtain ⟨hfz70_0, hfz70_1, hfz70_2, hfz70_3, hfz70_4, hfz70_5, hfz70_6, hfz70_7, hfz70_8, hfz70_9, hfz70_10, hfz70_11, hfz70_12⟩ := blkf13 BK540.out
                 go_wp2
                 go_meet
                 case rel => exact ⟨_, (t527), (t528), (t529), (t530), (t531), (t532), (t533), (x3_25), (t535), H', ⟨by have := HJ5.out; have := HJ25.out; first | omega | exact Nat.le_refl _⟩, ⟨by (with_reducible repeat (first | apply Kd.R_alloc | apply Kd.R_drewN | apply Kd.R_drew)); exact Kd.R_mono (Kd.rfR (Kd.R_types HO_541000.out BK540.out (by decide))) (fun _ hk => trivial)⟩, ⟨by (with_reducible repeat (first | apply Kd.R_alloc | apply Kd.R_drewN | apply Kd.R_drew)); exact Kd.R_mono (Kd.rfR (Kd.R_types HO_541001.out BK540.out (by decide))) (fun _ hk => trivial)⟩, ⟨by (with_reducible repeat (first | apply Kd.R_alloc | apply Kd.R_drewN | apply Kd.R_drew)); exact Kd.R_mono (Kd.rfR (Kd.R_types HO_541012.out BK540.out (by decide))) (fun _ hk => trivial)⟩, ⟨by (with_reducible repeat (first | refine blk_drewN ?_ _ | refine blk_drew ?_ | refine blk_alloc ?_ _)); refine blk_far ?_ NB515_540.out _; (with_reducible repeat (first | refine blk_drewN ?_ _ | refine blk_drew ?_ | refine blk_alloc ?_ _)); exact BK515.out⟩, ⟨by (with_reducible repeat (first | refine blk_drewN ?_ _ | refine blk_drew ?_ | refine blk_alloc ?_ _)); refine blk_put (cs := #[.slice Ao32 t521.length co32, .slice Ao35 t524.length co35, .int .i64 t527, .int .i64 t528, .int .i64 t529, .int .i64 t530, .int .i64 t531, .int .i64 t532, .int .i64 t533, .int .i64 t534, .int .i64 t535, .int .u64 t536, .slice Ao38 t541.length co38]) ?_ 9 _ rfl; (with_reducible repeat (first | refine blk_drewN ?_ _ | refine blk_drew ?_ | refine blk_alloc ?_ _)); exact BK540.out⟩, ⟨by repeat (first | (with_reducible first | exact HB.out | apply below_alloc | apply pw_below_drewN | apply below_drew1 | refine below_set ?_ GE515.out | refine below_set ?_ GE540.out) | exact HB.out)⟩⟩
                ·
                 rw [if_neg c68] at H
                 have c68b0 : (t547 == 7) = false := beq_eq_false_iff_ne.mpr c68
                 have c68b1 : (t547 != 7) = true := bne_iff_ne.mpr c68
                 by_cases c71 : t547 = 8
                 ·
                  rw [if_pos c71] at H
                  have c71b0 : (t547 == 8) = true := beq_iff_eq.mpr c71
                  have c71b1 : (t547 != 8) = false := bne_eq_false_iff_eq.mpr c71
                  clear c71
                  have H' := Aside0.mk H
                  clear H
                  have hnb72 := NB540_515.out
                  have hnc72 := NB515_540.out
                  obtain ⟨hcz73_0, hcz73_1, hcz73_2, hcz73_3, hcz73_4, hcz73_5, hcz73_6, hcz73_7, hcz73_8, hcz73_9, hcz73_10, hcz73_11, hcz73_12⟩ := blkc13 BK540.out
                  obtain ⟨hfz73_0, hfz73_1, hfz73_2, hfz73_3, hfz73_4, hfz73_5, hfz73_6, hfz73_7, hfz73_8, hfz73_9, hfz73_10, hfz73_11, hfz73_12⟩ := blkf13 BK540.out
                  go_wp2
                  go_meet
                  case rel => exact ⟨_, (t527), (t528), (t529), (t530), (t531), (t532), (t533), (t534), (x3_25), H', ⟨by have := HJ5.out; have := HJ25.out; first | omega | exact Nat.le_refl _⟩, ⟨by (with_reducible repeat (first | apply Kd.R_alloc | apply Kd.R_drewN | apply Kd.R_drew)); exact Kd.R_mono (Kd.rfR (Kd.R_types HO_541000.out BK540.out (by decide))) (fun _ hk => trivial)⟩, ⟨by (with_reducible repeat (first | apply Kd.R_alloc | apply Kd.R_drewN | apply Kd.R_drew)); exact Kd.R_mono (Kd.rfR (Kd.R_types HO_541001.out BK540.out (by decide))) (fun _ hk => trivial)⟩, ⟨by (with_reducible repeat (first | apply Kd.R_alloc | apply Kd.R_drewN | apply Kd.R_drew)); exact Kd.R_mono (Kd.rfR (Kd.R_types HO_541012.out BK540.out (by decide))) (fun _ hk => trivial)⟩, ⟨by (with_reducible repeat (first | refine blk_drewN ?_ _ | refine blk_drew ?_ | refine blk_alloc ?_ _)); refine blk_far ?_ NB515_540.out _; (with_reducible repeat (first | refine blk_drewN ?_ _ | refine blk_drew ?_ | refine blk_alloc ?_ _)); exact BK515.out⟩, ⟨by (with_reducible repeat (first | refine blk_drewN ?_ _ | refine blk_drew ?_ | refine blk_alloc ?_ _)); refine blk_put (cs := #[.slice Ao32 t521.length co32, .slice Ao35 t524.length co35, .int .i64 t527, .int .i64 t528, .int .i64 t529, .int .i64 t530, .int .i64 t531, .int .i64 t532, .int .i64 t533, .int .i64 t534, .int .i64 t535, .int .u64 t536, .slice Ao38 t541.length co38]) ?_ 10 _ rfl; (with_reducible repeat (first | refine blk_drewN ?_ _ | refine blk_drew ?_ | refine blk_alloc ?_ _)); exact BK540.out⟩, ⟨by repeat (first | (with_reducible first | exact HB.out | apply below_alloc | apply pw_below_drewN | apply below_drew1 | refine below_set ?_ GE515.out | refine below_set ?_ GE540.out) | exact HB.out)⟩⟩
                 ·
                  rw [if_neg c71] at H
                  have c71b0 : (t547 == 8) = false := beq_eq_false_iff_ne.mpr c71
                  have c71b1 : (t547 != 8) = true := bne_iff_ne.mpr c71
                  have H' := Aside0.mk H
                  clear H
                  go_wp2
                  go_meet
                  case rel => exact ⟨_, (t527), (t528), (t529), (t530), (t531), (t532), (t533), (t534), (t535), H', ⟨by have := HJ5.out; have := HJ25.out; first | omega | exact Nat.le_refl _⟩, ⟨by (with_reducible repeat (first | apply Kd.R_alloc | apply Kd.R_drewN | apply Kd.R_drew)); exact HO_541000.out⟩, ⟨by (with_reducible repeat (first | apply Kd.R_alloc | apply Kd.R_drewN | apply Kd.R_drew)); exact HO_541001.out⟩, ⟨by (with_reducible repeat (first | apply Kd.R_alloc | apply Kd.R_drewN | apply Kd.R_drew)); exact HO_541012.out⟩, ⟨by (with_reducible repeat (first | refine blk_drewN ?_ _ | refine blk_drew ?_ | refine blk_alloc ?_ _)); exact BK515.out⟩, ⟨by (with_reducible repeat (first | refine blk_drewN ?_ _ | refine blk_drew ?_ | refine blk_alloc ?_ _)); exact BK540.out⟩, ⟨by repeat (first | (with_reducible first | exact HB.out | apply below_alloc | apply pw_below_drewN | apply below_drew1 | refine below_set ?_ GE515.out | refine below_set ?_ GE540.out) | exact HB.out)⟩⟩
        case rest =>
         clear HC46
         (try clear hfz39_9)
         obtain ⟨kq, x541002_45, x541003_45, x541004_45, x541005_45, x541006_45, x541007_45, x541008_45, x541009_45, x541010_45, HA, HJ45, HO_541000, HO_541001, HO_541012, BK515, BK540, HB⟩ := hcut
         cases kq with
         | zero => exact absurd HA.out (by simp [busbarlaw15_ConfChecks.j2])
         | succ kj45 =>
          have H := HA.out
          clear HA
          simp only [busbarlaw15_ConfChecks.j2] at H
          replace H := Option.bind_eq_some_iff.mp H
          obtain ⟨t548, A740, H⟩ := H
          have A74 := Aside0.mk A740
          clear A740
          replace H := Option.bind_eq_some_iff.mp H
          obtain ⟨t549, A750, H⟩ := H
          have A75 := Aside0.mk A750
          clear A750
          obtain rfl := Option.some.inj H
          try go_wp2
          have n0_ := Aside0.mk (Kd.R_drew HO_541000.out)
          have n1_ := Aside0.mk (Kd.R_drew HO_541001.out)
          have n2_ := Aside0.mk (Kd.R_drew HO_541012.out)
          have n3_ := Aside0.mk (blk_drew BK515.out)
          have n4_ := Aside0.mk (blk_drew BK540.out)
          have n5_ := Aside0.mk (below_drew1 HB.out)
          clear HO_541000
          clear HO_541001
          clear HO_541012
          clear BK515
          clear BK540
          clear HB
          have HO_541000 := n0_
          have HO_541001 := n1_
          have HO_541012 := n2_
          have BK515 := n3_
          have BK540 := n4_
          have HB := n5_
          clear n0_ n1_ n2_ n3_ n4_ n5_
          refine start_ (n := 6) (S := fun w' => w'.cell? ⟨gb540, 0, none⟩ = some (.slice Ao32 t521.length co32) ∧ w'.cell? ⟨gb540, 1, none⟩ = some (.slice Ao35 t524.length co35) ∧ w'.cell? ⟨gb540, 2, none⟩ = some (.int .i64 x541002_45) ∧ w'.cell? ⟨gb540, 3, none⟩ = some (.int .i64 x541003_45) ∧ w'.cell? ⟨gb540, 4, none⟩ = some (.int .i64 x541004_45) ∧ w'.cell? ⟨gb540, 5, none⟩ = some (.int .i64 x541005_45) ∧ w'.cell? ⟨gb540, 6, none⟩ = some (.int .i64 x541006_45) ∧ w'.cell? ⟨gb540, 7, none⟩ = some (.int .i64 x541007_45) ∧ w'.cell? ⟨gb540, 8, none⟩ = some (.int .i64 x541008_45) ∧ w'.cell? ⟨gb540, 9, none⟩ = some (.int .i64 x541009_45) ∧ w'.cell? ⟨gb540, 10, none⟩ = some (.int .i64 x541010_45) ∧ w'.cell? ⟨gb540, 11, none⟩ = some (.int .u64 t536) ∧ w'.cell? ⟨gb540, 12, none⟩ = some (.slice Ao38 t541.length co38)) (ds := []) #[false,false,false,false,false,false] (by kernel_rfl) rfl rfl ⟨(blk_cell BK540.out 0).trans rfl, (blk_cell BK540.out 1).trans rfl, (blk_cell BK540.out 2).trans rfl, (blk_cell BK540.out 3).trans rfl, (blk_cell BK540.out 4).trans rfl, (blk_cell BK540.out 5).trans rfl, (blk_cell BK540.out 6).trans rfl, (blk_cell BK540.out 7).trans rfl, (blk_cell BK540.out 8).trans rfl, (blk_cell BK540.out 9).trans rfl, (blk_cell BK540.out 10).trans rfl, (blk_cell BK540.out 11).trans rfl, (blk_cell BK540.out 12).trans rfl⟩ (fun hHeld => ?_)
          generalize wc.drew = w76 at HO_541000 HO_541001 HO_541012 BK515 BK540 HB hHeld ⊢
          refine take_ (i := 0) (N := some 76) (v := ?_) (a' := ?_) #[true,false,false,false,false,false] rfl rfl (by kernel_rfl) (fun _ _ _ h => h) (Or.inl ⟨by rfl, ?_⟩) hHeld ?_ ?_
          rotate_left
          ·
           rintro w' ⟨s0, s1, s2, s3, s4, s5, s6, s7, s8, s9, s10, s11, s12⟩
           go_simp
           with_reducible rfl
          rotate_left
          ·
           simp only [Act.put, List.setIfInBounds_toArray, List.set_cons_zero, List.set_cons_succ, i64_w, i32_w]
           rfl
          refine take_ (i := 2) (N := some 78) (v := ?_) (a' := ?_) #[true,false,true,false,false,false] rfl rfl (by kernel_rfl) (fun _ _ _ h => h) (Or.inl ⟨by rfl, ?_⟩) hHeld ?_ ?_
          rotate_left
          ·
           rintro w' ⟨s0, s1, s2, s3, s4, s5, s6, s7, s8, s9, s10, s11, s12⟩
           go_simp
           with_reducible rfl
          rotate_left
          ·
           simp only [Act.put, List.setIfInBounds_toArray, List.set_cons_zero, List.set_cons_succ, i64_w, i32_w]
           rfl
          refine one_ (i := 1) (N := some 77) #[true,true,true,false,false,false] rfl rfl (by kernel_rfl) (by decide) (fun K hK => ?_)
          refine goes_ Try.func8 (by kernel_rfl) rfl #[.agg #[.slice Ao32 t521.length co32, .slice Ao35 t524.length co35, .int .i64 x541002_45, .int .i64 x541003_45, .int .i64 x541004_45, .int .i64 x541005_45, .int .i64 x541006_45, .int .i64 x541007_45, .int .i64 x541008_45, .int .i64 x541009_45, .int .i64 x541010_45, .int .u64 t536, .slice Ao38 t541.length co38]] (by rfl) rfl rfl (by (try simp only [List.map_toArray, List.map_cons, List.map_nil]); first | done | rfl | (simp only [List.length_drop, List.length_take]; rfl)) ?_
          with_reducible refine (conf_Check.calls kj45 _ _ t521 _ _ t524 x541002_45 x541003_45 x541004_45 x541005_45 x541006_45 x541007_45 x541008_45 x541009_45 x541010_45 t536 _ _ t541 t548 _ ?side1 ?side2 ?side3 ?side4 ?side5 ?side6 A74.out).mono ?_
          (case side1 => repeat (first | exact (Kd.R_reads' HO_541000.out).2.2 | (with_reducible refine Kd.C_alloc ?_ _) | (with_reducible refine Kd.C_drewN ?_ _) | (with_reducible refine Kd.C_drew ?_)))
          (case side2 => exact (Kd.R_reads' HO_541000.out).2.1)
          (case side3 => repeat (first | exact (Kd.R_reads' HO_541001.out).2.2 | (with_reducible refine Kd.C_alloc ?_ _) | (with_reducible refine Kd.C_drewN ?_ _) | (with_reducible refine Kd.C_drew ?_)))
          (case side4 => exact (Kd.R_reads' HO_541001.out).2.1)
          (case side5 => repeat (first | exact (Kd.R_reads' HO_541012.out).2.2 | (with_reducible refine Kd.C_alloc ?_ _) | (with_reducible refine Kd.C_drewN ?_ _) | (with_reducible refine Kd.C_drew ?_)))
          (case side6 => exact (Kd.R_reads' HO_541012.out).2.1)
          rintro e w77 ⟨rfl, hb⟩
          refine ⟨_, rfl, ?_⟩
          have n0_ := Aside0.mk (Kd.R_below (HO_541000.out) hb)
          have n1_ := Aside0.mk (Kd.R_below (HO_541001.out) hb)
          have n2_ := Aside0.mk (Kd.R_below (HO_541012.out) hb)
          have n3_ := Aside0.mk (blk_below BK515.out hb)
          have n4_ := Aside0.mk (blk_below BK540.out hb)
          have n5_ := Aside0.mk (below_step (HB.out) hb)
          clear HO_541000
          clear HO_541001
          clear HO_541012
          clear BK515
          clear BK540
          clear HB
          have HO_541000 := n0_
          have HO_541001 := n1_
          have HO_541012 := n2_
          have BK515 := n3_
          have BK540 := n4_
          have HB := n5_
          clear n0_ n1_ n2_ n3_ n4_ n5_
          (try clear hb)
          (try clear hb2)
          (try clear hk)
          (try clear hi)
          refine hK.out _ _ ⟨(blk_cell BK540.out 0).trans rfl, (blk_cell BK540.out 1).trans rfl, (blk_cell BK540.out 2).trans rfl, (blk_cell BK540.out 3).trans rfl, (blk_cell BK540.out 4).trans rfl, (blk_cell BK540.out 5).trans rfl, (blk_cell BK540.out 6).trans rfl, (blk_cell BK540.out 7).trans rfl, (blk_cell BK540.out 8).trans rfl, (blk_cell BK540.out 9).trans rfl, (blk_cell BK540.out 10).trans rfl, (blk_cell BK540.out 11).trans rfl, (blk_cell BK540.out 12).trans rfl⟩ (fun hHeld => ?_)
          clear hK K
          refine norm_ (a' := ?_) ?_ ?_
          rotate_left
          ·
           show Act.put _ (some 77) _ = _
           simp only [Act.put, List.setIfInBounds_toArray, List.set_cons_zero, List.set_cons_succ, i64_w, i32_w]
           rfl
          refine one_ (i := 3) (N := some 79) #[true,true,true,true,false,false] rfl rfl (by kernel_rfl) (by decide) (fun K hK => ?_)
          refine goes_ Try.func9 (by kernel_rfl) rfl #[.agg #[.slice Ao32 t521.length co32, .slice Ao35 t524.length co35, .int .i64 x541002_45, .int .i64 x541003_45, .int .i64 x541004_45, .int .i64 x541005_45, .int .i64 x541006_45, .int .i64 x541007_45, .int .i64 x541008_45, .int .i64 x541009_45, .int .i64 x541010_45, .int .u64 t536, .slice Ao38 t541.length co38]] (by rfl) rfl rfl (by (try simp only [List.map_toArray, List.map_cons, List.map_nil]); first | done | rfl | (simp only [List.length_drop, List.length_take]; rfl)) ?_
          with_reducible refine (busbarref12_Check.calls kj45 _ _ t521 _ _ t524 x541002_45 x541003_45 x541004_45 x541005_45 x541006_45 x541007_45 x541008_45 x541009_45 x541010_45 t536 _ _ t541 t549 _ ?side1 ?side2 ?side3 ?side4 ?side5 ?side6 A75.out).mono ?_
          (case side1 => repeat (first | exact (Kd.R_reads' HO_541000.out).2.2 | (with_reducible refine Kd.C_alloc ?_ _) | (with_reducible refine Kd.C_drewN ?_ _) | (with_reducible refine Kd.C_drew ?_)))
          (case side2 => exact (Kd.R_reads' HO_541000.out).2.1)
          (case side3 => repeat (first | exact (Kd.R_reads' HO_541001.out).2.2 | (with_reducible refine Kd.C_alloc ?_ _) | (with_reducible refine Kd.C_drewN ?_ _) | (with_reducible refine Kd.C_drew ?_)))
          (case side4 => exact (Kd.R_reads' HO_541001.out).2.1)
          (case side5 => repeat (first | exact (Kd.R_reads' HO_541012.out).2.2 | (with_reducible refine Kd.C_alloc ?_ _) | (with_reducible refine Kd.C_drewN ?_ _) | (with_reducible refine Kd.C_drew ?_)))
          (case side6 => exact (Kd.R_reads' HO_541012.out).2.1)
          rintro e w78 ⟨rfl, hb⟩
          refine ⟨_, rfl, ?_⟩
          have n0_ := Aside0.mk (Kd.R_below (HO_541000.out) hb)
          have n1_ := Aside0.mk (Kd.R_below (HO_541001.out) hb)
          have n2_ := Aside0.mk (Kd.R_below (HO_541012.out) hb)
          have n3_ := Aside0.mk (blk_below BK515.out hb)
          have n4_ := Aside0.mk (blk_below BK540.out hb)
          have n5_ := Aside0.mk (below_step (HB.out) hb)
          clear HO_541000
          clear HO_541001
          clear HO_541012
          clear BK515
          clear BK540
          clear HB
          have HO_541000 := n0_
          have HO_541001 := n1_
          have HO_541012 := n2_
          have BK515 := n3_
          have BK540 := n4_
          have HB := n5_
          clear n0_ n1_ n2_ n3_ n4_ n5_
          (try clear hb)
          (try clear hb2)
          (try clear hk)
          (try clear hi)
          refine hK.out _ _ ⟨(blk_cell BK540.out 0).trans rfl, (blk_cell BK540.out 1).trans rfl, (blk_cell BK540.out 2).trans rfl, (blk_cell BK540.out 3).trans rfl, (blk_cell BK540.out 4).trans rfl, (blk_cell BK540.out 5).trans rfl, (blk_cell BK540.out 6).trans rfl, (blk_cell BK540.out 7).trans rfl, (blk_cell BK540.out 8).trans rfl, (blk_cell BK540.out 9).trans rfl, (blk_cell BK540.out 10).trans rfl, (blk_cell BK540.out 11).trans rfl, (blk_cell BK540.out 12).trans rfl⟩ (fun hHeld => ?_)
          clear hK K
          refine norm_ (a' := ?_) ?_ ?_
          rotate_left
          ·
           show Act.put _ (some 79) _ = _
           simp only [Act.put, List.setIfInBounds_toArray, List.set_cons_zero, List.set_cons_succ, i64_w, i32_w]
           rfl
          refine pure_ (i := 4) (N := some 80) (v := ?_) (a' := ?_) #[true,true,true,true,true,false] rfl rfl (by kernel_rfl) (fun _ _ _ h => h) (Or.inl ⟨by rfl, ?_⟩) ?_ ?_
          rotate_left
          ·
           intro w'
           go_simp
           with_reducible rfl
          rotate_left
          ·
           simp only [Act.put, List.setIfInBounds_toArray, List.set_cons_zero, List.set_cons_succ, i64_w, i32_w]
           rfl
          refine pure_ (i := 5) (N := some 10) (v := ?_) (a' := ?_) #[true,true,true,true,true,true] rfl rfl (by kernel_rfl) (fun _ _ _ h => h) (Or.inl ⟨by rfl, ?_⟩) ?_ ?_
          rotate_left
          ·
           intro w'
           go_simp
           with_reducible rfl
          rotate_left
          ·
           simp only [Act.put, List.setIfInBounds_toArray, List.set_cons_zero, List.set_cons_succ, i64_w, i32_w]
           rfl
          refine done_ (by kernel_rfl) ?_
          try go_wp2
          go_ret
          exact ⟨by first | rfl | (simp [errW_none, errW_some] <;> rfl) | (simp [*, errW_none, errW_some] <;> rfl), HB.out⟩
     ·
      rw [if_neg c25] at H
      have c25b0 : (t544 == 0) = false := beq_eq_false_iff_ne.mpr c25
      have c25b1 : (t544 != 0) = true := bne_iff_ne.mpr c25
      obtain rfl := Option.some.inj H
      try go_wp2
      have n0_ := Aside0.mk (blk_drew BK515.out)
      have n1_ := Aside0.mk (below_drew1 HB.out)
      clear BK515
      clear HB
      have BK515 := n0_
      have HB := n1_
      clear n0_ n1_
      refine start_ (n := 5) (S := fun w' => w'.cell? ⟨gb515, 0, none⟩ = some (.slice A0_0 l0_0.length c0_0) ∧ w'.cell? ⟨gb515, 1, none⟩ = some (.slice A0_1 l0_1.length c0_1) ∧ w'.cell? ⟨gb515, 2, none⟩ = some (.int .i64 a0_2) ∧ w'.cell? ⟨gb515, 3, none⟩ = some (.int .i64 a0_3) ∧ w'.cell? ⟨gb515, 4, none⟩ = some (.int .i64 a0_4) ∧ w'.cell? ⟨gb515, 5, none⟩ = some (.int .i64 a0_5) ∧ w'.cell? ⟨gb515, 6, none⟩ = some (.int .i64 a0_6) ∧ w'.cell? ⟨gb515, 7, none⟩ = some (.int .i64 a0_7) ∧ w'.cell? ⟨gb515, 8, none⟩ = some (.int .i64 a0_8) ∧ w'.cell? ⟨gb515, 9, none⟩ = some (.int .i64 a0_9) ∧ w'.cell? ⟨gb515, 10, none⟩ = some (.int .i64 a0_10) ∧ w'.cell? ⟨gb515, 11, none⟩ = some (.int .u64 a0_11) ∧ w'.cell? ⟨gb515, 12, none⟩ = some (.slice A0_12 l0_12.length c0_12)) (ds := []) #[false,false,false,false,false] (by kernel_rfl) rfl rfl ⟨(blk_cell BK515.out 0).trans rfl, (blk_cell BK515.out 1).trans rfl, (blk_cell BK515.out 2).trans rfl, (blk_cell BK515.out 3).trans rfl, (blk_cell BK515.out 4).trans rfl, (blk_cell BK515.out 5).trans rfl, (blk_cell BK515.out 6).trans rfl, (blk_cell BK515.out 7).trans rfl, (blk_cell BK515.out 8).trans rfl, (blk_cell BK515.out 9).trans rfl, (blk_cell BK515.out 10).trans rfl, (blk_cell BK515.out 11).trans rfl, (blk_cell BK515.out 12).trans rfl⟩ (fun hHeld => ?_)
      generalize wc.drew = w79 at BK515 HB hHeld ⊢
      refine take_ (i := 0) (N := some 20) (v := ?_) (a' := ?_) #[true,false,false,false,false] rfl rfl (by kernel_rfl) (fun _ _ _ h => h) (Or.inl ⟨by rfl, ?_⟩) hHeld ?_ ?_
      rotate_left
      ·
       rintro w' ⟨s0, s1, s2, s3, s4, s5, s6, s7, s8, s9, s10, s11, s12⟩
       go_simp
       with_reducible rfl
      rotate_left
      ·
       simp only [Act.put, List.setIfInBounds_toArray, List.set_cons_zero, List.set_cons_succ, i64_w, i32_w]
       rfl
      refine take_ (i := 2) (N := some 22) (v := ?_) (a' := ?_) #[true,false,true,false,false] rfl rfl (by kernel_rfl) (fun _ _ _ h => h) (Or.inl ⟨by rfl, ?_⟩) hHeld ?_ ?_
      rotate_left
      ·
       rintro w' ⟨s0, s1, s2, s3, s4, s5, s6, s7, s8, s9, s10, s11, s12⟩
       go_simp
       with_reducible rfl
      rotate_left
      ·
       simp only [Act.put, List.setIfInBounds_toArray, List.set_cons_zero, List.set_cons_succ, i64_w, i32_w]
       rfl
      refine one_ (i := 1) (N := some 21) #[true,true,true,false,false] rfl rfl (by kernel_rfl) (by decide) (fun K hK => ?_)
      refine goes_ Try.func8 (by kernel_rfl) rfl #[.agg #[.slice A0_0 l0_0.length c0_0, .slice A0_1 l0_1.length c0_1, .int .i64 a0_2, .int .i64 a0_3, .int .i64 a0_4, .int .i64 a0_5, .int .i64 a0_6, .int .i64 a0_7, .int .i64 a0_8, .int .i64 a0_9, .int .i64 a0_10, .int .u64 a0_11, .slice A0_12 l0_12.length c0_12]] (by rfl) rfl rfl (by (try simp only [List.map_toArray, List.map_cons, List.map_nil]); first | done | rfl | (simp only [List.length_drop, List.length_take]; rfl)) ?_
      with_reducible refine (conf_Check.calls kj5 _ _ l0_0 _ _ l0_1 a0_2 a0_3 a0_4 a0_5 a0_6 a0_7 a0_8 a0_9 a0_10 a0_11 _ _ l0_12 t519 _ ?side1 ?side2 ?side3 ?side4 ?side5 ?side6 A19.out).mono ?_
      (case side1 => repeat (first | exact (Kd.C_below HR0_0.out HB.out) | (with_reducible refine Kd.C_alloc ?_ _) | (with_reducible refine Kd.C_drewN ?_ _) | (with_reducible refine Kd.C_drew ?_)))
      (case side2 => exact HC0_0.out)
      (case side3 => repeat (first | exact (Kd.C_below HR0_1.out HB.out) | (with_reducible refine Kd.C_alloc ?_ _) | (with_reducible refine Kd.C_drewN ?_ _) | (with_reducible refine Kd.C_drew ?_)))
      (case side4 => exact HC0_1.out)
      (case side5 => repeat (first | exact (Kd.C_below HR0_12.out HB.out) | (with_reducible refine Kd.C_alloc ?_ _) | (with_reducible refine Kd.C_drewN ?_ _) | (with_reducible refine Kd.C_drew ?_)))
      (case side6 => exact HC0_12.out)
      rintro e w80 ⟨rfl, hb⟩
      refine ⟨_, rfl, ?_⟩
      have n0_ := Aside0.mk (blk_below BK515.out hb)
      have n1_ := Aside0.mk (below_step (HB.out) hb)
      clear BK515
      clear HB
      have BK515 := n0_
      have HB := n1_
      clear n0_ n1_
      (try clear hb)
      (try clear hb2)
      (try clear hk)
      (try clear hi)
      refine hK.out _ _ ⟨(blk_cell BK515.out 0).trans rfl, (blk_cell BK515.out 1).trans rfl, (blk_cell BK515.out 2).trans rfl, (blk_cell BK515.out 3).trans rfl, (blk_cell BK515.out 4).trans rfl, (blk_cell BK515.out 5).trans rfl, (blk_cell BK515.out 6).trans rfl, (blk_cell BK515.out 7).trans rfl, (blk_cell BK515.out 8).trans rfl, (blk_cell BK515.out 9).trans rfl, (blk_cell BK515.out 10).trans rfl, (blk_cell BK515.out 11).trans rfl, (blk_cell BK515.out 12).trans rfl⟩ (fun hHeld => ?_)
      clear hK K
      refine norm_ (a' := ?_) ?_ ?_
      rotate_left
      ·
       show Act.put _ (some 21) _ = _
       simp only [Act.put, List.setIfInBounds_toArray, List.set_cons_zero, List.set_cons_succ, i64_w, i32_w]
       rfl
      refine one_ (i := 3) (N := some 23) #[true,true,true,true,false] rfl rfl (by kernel_rfl) (by decide) (fun K hK => ?_)
      refine goes_ Try.func9 (by kernel_rfl) rfl #[.agg #[.slice A0_0 l0_0.length c0_0, .slice A0_1 l0_1.length c0_1, .int .i64 a0_2, .int .i64 a0_3, .int .i64 a0_4, .int .i64 a0_5, .int .i64 a0_6, .int .i64 a0_7, .int .i64 a0_8, .int .i64 a0_9, .int .i64 a0_10, .int .u64 a0_11, .slice A0_12 l0_12.length c0_12]] (by rfl) rfl rfl (by (try simp only [List.map_toArray, List.map_cons, List.map_nil]); first | done | rfl | (simp only [List.length_drop, List.length_take]; rfl)) ?_
      with_reducible refine (busbarref12_Check.calls kj5 _ _ l0_0 _ _ l0_1 a0_2 a0_3 a0_4 a0_5 a0_6 a0_7 a0_8 a0_9 a0_10 a0_11 _ _ l0_12 t520 _ ?side1 ?side2 ?side3 ?side4 ?side5 ?side6 A20.out).mono ?_
      (case side1 => repeat (first | exact (Kd.C_below HR0_0.out HB.out) | (with_reducible refine Kd.C_alloc ?_ _) | (with_reducible refine Kd.C_drewN ?_ _) | (with_reducible refine Kd.C_drew ?_)))
      (case side2 => exact HC0_0.out)
      (case side3 => repeat (first | exact (Kd.C_below HR0_1.out HB.out) | (with_reducible refine Kd.C_alloc ?_ _) | (with_reducible refine Kd.C_drewN ?_ _) | (with_reducible refine Kd.C_drew ?_)))
      (case side4 => exact HC0_1.out)
      (case side5 => repeat (first | exact (Kd.C_below HR0_12.out HB.out) | (with_reducible refine Kd.C_alloc ?_ _) | (with_reducible refine Kd.C_drewN ?_ _) | (with_reducible refine Kd.C_drew ?_)))
      (case side6 => exact HC0_12.out)
      rintro e w81 ⟨rfl, hb⟩
      refine ⟨_, rfl, ?_⟩
      have n0_ := Aside0.mk (blk_below BK515.out hb)
      have n1_ := Aside0.mk (below_step (HB.out) hb)
      clear BK515
      clear HB
      have BK515 := n0_
      have HB := n1_
      clear n0_ n1_
      (try clear hb)
      (try clear hb2)
      (try clear hk)
      (try clear hi)
      refine hK.out _ _ ⟨(blk_cell BK515.out 0).trans rfl, (blk_cell BK515.out 1).trans rfl, (blk_cell BK515.out 2).trans rfl, (blk_cell BK515.out 3).trans rfl, (blk_cell BK515.out 4).trans rfl, (blk_cell BK515.out 5).trans rfl, (blk_cell BK515.out 6).trans rfl, (blk_cell BK515.out 7).trans rfl, (blk_cell BK515.out 8).trans rfl, (blk_cell BK515.out 9).trans rfl, (blk_cell BK515.out 10).trans rfl, (blk_cell BK515.out 11).trans rfl, (blk_cell BK515.out 12).trans rfl⟩ (fun hHeld => ?_)
      clear hK K
      refine norm_ (a' := ?_) ?_ ?_
      rotate_left
      ·
       show Act.put _ (some 23) _ = _
       simp only [Act.put, List.setIfInBounds_toArray, List.set_cons_zero, List.set_cons_succ, i64_w, i32_w]
       rfl
      refine pure_ (i := 4) (N := some 24) (v := ?_) (a' := ?_) #[true,true,true,true,true] rfl rfl (by kernel_rfl) (fun _ _ _ h => h) (Or.inl ⟨by rfl, ?_⟩) ?_ ?_
      rotate_left
      ·
       intro w'
       go_simp
       with_reducible rfl
      rotate_left
      ·
       simp only [Act.put, List.setIfInBounds_toArray, List.set_cons_zero, List.set_cons_succ, i64_w, i32_w]
       rfl
      refine done_ (by kernel_rfl) ?_
      try go_wp2_with (first | ((with_reducible refine gate_callee (f := 10) rfl ?_); refine goesL_ (some 26) rfl rfl Try.func10 (by kernel_rfl) rfl #[.slice A1 l1.length c1] rfl (by (try simp only [List.map_toArray, List.map_cons, List.map_nil]); first | done | rfl | (simp only [List.length_drop, List.length_take]; rfl)) ?_; (with_reducible refine (busbarlaw0_Conf.calls kj5 _ _ l1 t521 t524 t527 t528 t529 t530 t531 t532 t533 t534 t535 t536 t537 _ ?side1 ?side2 A22.out).mono ?_); (case side1 => repeat (first | exact (Kd.C_below HR1.out HB.out) | (with_reducible refine Kd.C_alloc ?_ _) | (with_reducible refine Kd.C_drewN ?_ _) | (with_reducible refine Kd.C_drew ?_))); (case side2 => exact HC1.out); rintro e w82 ⟨v522, v525, v538, rfl, ho0, ho1, ho2, hb⟩; refine ⟨_, rfl, ?_⟩; have HO523 := Aside0.mk (Kd.R_lower ho0 (below_size (HB.out))); have HO526 := Aside0.mk (Kd.R_lower ho1 (below_size (HB.out))); have HO539 := Aside0.mk (Kd.R_lower ho2 (below_size (HB.out))); replace BK515 := Aside0.mk (blk_below BK515.out hb); replace HB := Aside0.mk (below_step (HB.out) hb); (try clear hb); (try clear ho0); (try clear ho1); (try clear ho2)) | ((with_reducible refine gate_dst (N := 11) rfl ?_); refine box_event ?hg (N := 11) ?hd (cs := #[.slice none 0 0, .slice none 0 0, .int .i64 0, .int .i64 0, .int .i64 0, .int .i64 0, .int .i64 0, .int .i64 0, .int .i64 0, .int .i64 0, .int .i64 0, .int .u64 0, .slice none 0 0]) (t := 27) ?hr ?_; (case hd => rfl); (case hg => rfl); (case hr => first | (go_simp; done) | (go_simp; rfl)); intro gb540 hg w83 hbox hb; replace HO523 := Aside0.mk (Kd.R_below (HO523.out) hb); replace HO526 := Aside0.mk (Kd.R_below (HO526.out) hb); replace HO539 := Aside0.mk (Kd.R_below (HO539.out) hb); have BK540 := Aside0.mk (hbox); have GW540 := Aside0.mk ((by rw [hg]; exact (below_size (HB.out)) : w.heap.size ≤ gb540)); have GE540 := Aside0.mk ((by rw [hg]; exact (below_size (HB.out)) : w.heap.size ≤ gb540)); replace HB := Aside0.mk (below_step (HB.out) hb); have NB515_540 := Aside0.mk ((by rw [hg]; exact Nat.ne_of_lt (blk_lt (g := gb515) (o := .cells #[.slice A0_0 l0_0.length c0_0, .slice A0_1 l0_1.length c0_1, .int .i64 a0_2, .int .i64 a0_3, .int .i64 a0_4, .int .i64 a0_5, .int .i64 a0_6, .int .i64 a0_7, .int .i64 a0_8, .int .i64 a0_9, .int .i64 a0_10, .int .u64 a0_11, .slice A0_12 l0_12.length c0_12] 27 (0, 0)) (BK515.out)) : gb515 ≠ gb540)); have NB540_515 := Aside0.mk ((by rw [hg]; exact Nat.ne_of_gt (blk_lt (g := gb515) (o := .cells #[.slice A0_0 l0_0.length c0_0, .slice A0_1 l0_1.length c0_1, .int .i64 a0_2, .int .i64 a0_3, .int .i64 a0_4, .int .i64 a0_5, .int .i64 a0_6, .int .i64 a0_7, .int .i64 a0_8, .int .i64 a0_9, .int .i64 a0_10, .int .u64 a0_11, .slice A0_12 l0_12.length c0_12] 27 (0, 0)) (BK515.out)) : gb540 ≠ gb515)); replace BK515 := Aside0.mk (blk_below BK515.out hb); clear hb hbox hg; obtain ⟨Ao84, co84, eo84⟩ := Kd.R_slice HO523.out; subst eo84; have hnb85 := NB540_515.out; have hnc85 := NB515_540.out; obtain ⟨hcz86_0, hcz86_1, hcz86_2, hcz86_3, hcz86_4, hcz86_5, hcz86_6, hcz86_7, hcz86_8, hcz86_9, hcz86_10, hcz86_11, hcz86_12⟩ := blkc13 BK540.out; obtain ⟨hfz86_0, hfz86_1, hfz86_2, hfz86_3, hfz86_4, hfz86_5, hfz86_6, hfz86_7, hfz86_8, hfz86_9, hfz86_10, hfz86_11, hfz86_12⟩ := blkf13 BK540.out; obtain ⟨Ao87, co87, eo87⟩ := Kd.R_slice HO526.out; subst eo87; obtain ⟨Ao88, co88, eo88⟩ := Kd.R_slice HO539.out; subst eo88) | ((with_reducible refine gate_callee (f := 11) rfl ?_); refine goesL_ (some 28) rfl rfl Try.func11 (by kernel_rfl) rfl #[.slice A1 l1.length c1] rfl (by (try simp only [List.map_toArray, List.map_cons, List.map_nil]); first | done | rfl | (simp only [List.length_drop, List.length_take]; rfl)) ?_; (with_reducible refine (busbarlaw7_Objects.calls kj5 _ _ l1 t541 _ ?side1 ?side2 A23.out).mono ?_); (case side1 => exact Kd.C_below HR1.out (by repeat (first | (with_reducible first | exact HB.out | apply below_alloc | apply pw_below_drewN | apply below_drew1 | refine below_set ?_ GE515.out | refine below_set ?_ GE540.out) | exact HB.out))); (case side2 => exact HC1.out); rintro e w89 ⟨v542, rfl, ho0, hb⟩; refine ⟨_, rfl, ?_⟩; replace HO523 := Aside0.mk (Kd.R_below ((Kd.R_mono (Kd.rfR (Kd.rfR (Kd.rfR (Kd.rfR (Kd.rfR (Kd.rfR (Kd.rfR (Kd.rfR (Kd.rfR (Kd.rfR (Kd.rfR (Kd.rfR (Kd.rfR (Kd.R_types HO523.out BK540.out (by decide))))))))))))))) (fun _ h_ => h_.1))) hb); replace HO526 := Aside0.mk (Kd.R_below ((Kd.R_mono (Kd.rfR (Kd.rfR (Kd.rfR (Kd.rfR (Kd.rfR (Kd.rfR (Kd.rfR (Kd.rfR (Kd.rfR (Kd.rfR (Kd.rfR (Kd.rfR (Kd.rfR (Kd.R_types HO526.out BK540.out (by decide))))))))))))))) (fun _ h_ => h_.1))) hb); have HO543 := Aside0.mk (Kd.R_lower (Kd.R_new' ho0 (Kd.R_lt ((Kd.R_mono (Kd.rfR (Kd.rfR (Kd.rfR (Kd.rfR (Kd.rfR (Kd.rfR (Kd.rfR (Kd.rfR (Kd.rfR (Kd.rfR (Kd.rfR (Kd.rfR (Kd.rfR (Kd.R_types HO539.out BK540.out (by decide))))))))))))))) (fun _ h_ => h_.1))))) (below_size (by repeat (first | (with_reducible first | exact HB.out | apply below_alloc | apply pw_below_drewN | apply below_drew1 | refine below_set ?_ GE515.out | refine below_set ?_ GE540.out) | exact HB.out)))); replace HO539 := Aside0.mk (Kd.R_elder' ((Kd.R_mono (Kd.rfR (Kd.rfR (Kd.rfR (Kd.rfR (Kd.rfR (Kd.rfR (Kd.rfR (Kd.rfR (Kd.rfR (Kd.rfR (Kd.rfR (Kd.rfR (Kd.rfR (Kd.R_types HO539.out BK540.out (by decide))))))))))))))) (fun _ h_ => h_.1))) (Kd.R_base ho0) hb); replace BK515 := Aside0.mk (blk_below (g := gb515) (o := .cells #[.slice A0_0 l0_0.length c0_0, .slice A0_1 l0_1.length c0_1, .int .i64 a0_2, .int .i64 a0_3, .int .i64 a0_4, .int .i64 a0_5, .int .i64 a0_6, .int .i64 a0_7, .int .i64 a0_8, .int .i64 a0_9, .int .i64 a0_10, .int .u64 a0_11, .slice A0_12 l0_12.length c0_12] 27 (0, 0)) (by (with_reducible repeat (first | refine blk_drewN ?_ _ | refine blk_drew ?_ | refine blk_alloc ?_ _)); refine blk_far ?_ NB515_540.out _; (with_reducible repeat (first | refine blk_drewN ?_ _ | refine blk_drew ?_ | refine blk_alloc ?_ _)); refine blk_far ?_ NB515_540.out _; (with_reducible repeat (first | refine blk_drewN ?_ _ | refine blk_drew ?_ | refine blk_alloc ?_ _)); refine blk_far ?_ NB515_540.out _; (with_reducible repeat (first | refine blk_drewN ?_ _ | refine blk_drew ?_ | refine blk_alloc ?_ _)); refine blk_far ?_ NB515_540.out _; (with_reducible repeat (first | refine blk_drewN ?_ _ | refine blk_drew ?_ | refine blk_alloc ?_ _)); refine blk_far ?_ NB515_540.out _; (with_reducible repeat (first | refine blk_drewN ?_ _ | refine blk_drew ?_ | refine blk_alloc ?_ _)); refine blk_far ?_ NB515_540.out _; (with_reducible repeat (first | refine blk_drewN ?_ _ | refine blk_drew ?_ | refine blk_alloc ?_ _)); refine blk_far ?_ NB515_540.out _; (with_reducible repeat (first | refine blk_drewN ?_ _ | refine blk_drew ?_ | refine blk_alloc ?_ _)); refine blk_far ?_ NB515_540.out _; (with_reducible repeat (first | refine blk_drewN ?_ _ | refine blk_drew ?_ | refine blk_alloc ?_ _)); refine blk_far ?_ NB515_540.out _; (with_reducible repeat (first | refine blk_drewN ?_ _ | refine blk_drew ?_ | refine blk_alloc ?_ _)); refine blk_far ?_ NB515_540.out _; (with_reducible repeat (first | refine blk_drewN ?_ _ | refine blk_drew ?_ | refine blk_alloc ?_ _)); refine blk_far ?_ NB515_540.out _; (with_reducible repeat (first | refine blk_drewN ?_ _ | refine blk_drew ?_ | refine blk_alloc ?_ _)); refine blk_far ?_ NB515_540.out _; (with_reducible repeat (first | refine blk_drewN ?_ _ | refine blk_drew ?_ | refine blk_alloc ?_ _)); refine blk_far ?_ NB515_540.out _; (with_reducible repeat (first | refine blk_drewN ?_ _ | refine blk_drew ?_ | refine blk_alloc ?_ _)); exact BK515.out) hb); replace BK540 := Aside0.mk (blk_below (g := gb540) (o := .cells #[.slice Ao84 t521.length co84, .slice Ao87 t524.length co87, .int .i64 t527, .int .i64 t528, .int .i64 t529, .int .i64 t530, .int .i64 t531, .int .i64 t532, .int .i64 t533, .int .i64 t534, .int .i64 t535, .int .u64 t536, .slice Ao88 t537.length co88] 27 (0, 0)) (by (with_reducible repeat (first | refine blk_drewN ?_ _ | refine blk_drew ?_ | refine blk_alloc ?_ _)); refine blk_put (cs := #[.slice Ao84 t521.length co84, .slice Ao87 t524.length co87, .int .i64 t527, .int .i64 t528, .int .i64 t529, .int .i64 t530, .int .i64 t531, .int .i64 t532, .int .i64 t533, .int .i64 t534, .int .i64 t535, .int .u64 t536, .slice none 0 0]) ?_ 12 _ rfl; (with_reducible repeat (first | refine blk_drewN ?_ _ | refine blk_drew ?_ | refine blk_alloc ?_ _)); refine blk_put (cs := #[.slice Ao84 t521.length co84, .slice Ao87 t524.length co87, .int .i64 t527, .int .i64 t528, .int .i64 t529, .int .i64 t530, .int .i64 t531, .int .i64 t532, .int .i64 t533, .int .i64 t534, .int .i64 t535, .int .u64 0, .slice none 0 0]) ?_ 11 _ rfl; (with_reducible repeat (first | refine blk_drewN ?_ _ | refine blk_drew ?_ | refine blk_alloc ?_ _)); refine blk_put (cs := #[.slice Ao84 t521.length co84, .slice Ao87 t524.length co87, .int .i64 t527, .int .i64 t528, .int .i64 t529, .int .i64 t530, .int .i64 t531, .int .i64 t532, .int .i64 t533, .int .i64 t534, .int .i64 0, .int .u64 0, .slice none 0 0]) ?_ 10 _ rfl; (with_reducible repeat (first | refine blk_drewN ?_ _ | refine blk_drew ?_ | refine blk_alloc ?_ _)); refine blk_put (cs := #[.slice Ao84 t521.length co84, .slice Ao87 t524.length co87, .int .i64 t527, .int .i64 t528, .int .i64 t529, .int .i64 t530, .int .i64 t531, .int .i64 t532, .int .i64 t533, .int .i64 0, .int .i64 0, .int .u64 0, .slice none 0 0]) ?_ 9 _ rfl; (with_reducible repeat (first | refine blk_drewN ?_ _ | refine blk_drew ?_ | refine blk_alloc ?_ _)); refine blk_put (cs := #[.slice Ao84 t521.length co84, .slice Ao87 t524.length co87, .int .i64 t527, .int .i64 t528, .int .i64 t529, .int .i64 t530, .int .i64 t531, .int .i64 t532, .int .i64 0, .int .i64 0, .int .i64 0, .int .u64 0, .slice none 0 0]) ?_ 8 _ rfl; (with_reducible repeat (first | refine blk_drewN ?_ _ | refine blk_drew ?_ | refine blk_alloc ?_ _)); refine blk_put (cs := #[.slice Ao84 t521.length co84, .slice Ao87 t524.length co87, .int .i64 t527, .int .i64 t528, .int .i64 t529, .int .i64 t530, .int .i64 t531, .int .i64 0, .int .i64 0, .int .i64 0, .int .i64 0, .int .u64 0, .slice none 0 0]) ?_ 7 _ rfl; (with_reducible repeat (first | refine blk_drewN ?_ _ | refine blk_drew ?_ | refine blk_alloc ?_ _)); refine blk_put (cs := #[.slice Ao84 t521.length co84, .slice Ao87 t524.length co87, .int .i64 t527, .int .i64 t528, .int .i64 t529, .int .i64 t530, .int .i64 0, .int .i64 0, .int .i64 0, .int .i64 0, .int .i64 0, .int .u64 0, .slice none 0 0]) ?_ 6 _ rfl; (with_reducible repeat (first | refine blk_drewN ?_ _ | refine blk_drew ?_ | refine blk_alloc ?_ _)); refine blk_put (cs := #[.slice Ao84 t521.length co84, .slice Ao87 t524.length co87, .int .i64 t527, .int .i64 t528, .int .i64 t529, .int .i64 0, .int .i64 0, .int .i64 0, .int .i64 0, .int .i64 0, .int .i64 0, .int .u64 0, .slice none 0 0]) ?_ 5 _ rfl; (with_reducible repeat (first | refine blk_drewN ?_ _ | refine blk_drew ?_ | refine blk_alloc ?_ _)); refine blk_put (cs := #[.slice Ao84 t521.length co84, .slice Ao87 t524.length co87, .int .i64 t527, .int .i64 t528, .int .i64 0, .int .i64 0, .int .i64 0, .int .i64 0, .int .i64 0, .int .i64 0, .int .i64 0, .int .u64 0, .slice none 0 0]) ?_ 4 _ rfl; (with_reducible repeat (first | refine blk_drewN ?_ _ | refine blk_drew ?_ | refine blk_alloc ?_ _)); refine blk_put (cs := #[.slice Ao84 t521.length co84, .slice Ao87 t524.length co87, .int .i64 t527, .int .i64 0, .int .i64 0, .int .i64 0, .int .i64 0, .int .i64 0, .int .i64 0, .int .i64 0, .int .i64 0, .int .u64 0, .slice none 0 0]) ?_ 3 _ rfl; (with_reducible repeat (first | refine blk_drewN ?_ _ | refine blk_drew ?_ | refine blk_alloc ?_ _)); refine blk_put (cs := #[.slice Ao84 t521.length co84, .slice Ao87 t524.length co87, .int .i64 0, .int .i64 0, .int .i64 0, .int .i64 0, .int .i64 0, .int .i64 0, .int .i64 0, .int .i64 0, .int .i64 0, .int .u64 0, .slice none 0 0]) ?_ 2 _ rfl; (with_reducible repeat (first | refine blk_drewN ?_ _ | refine blk_drew ?_ | refine blk_alloc ?_ _)); refine blk_put (cs := #[.slice Ao84 t521.length co84, .slice none 0 0, .int .i64 0, .int .i64 0, .int .i64 0, .int .i64 0, .int .i64 0, .int .i64 0, .int .i64 0, .int .i64 0, .int .i64 0, .int .u64 0, .slice none 0 0]) ?_ 1 _ rfl; (with_reducible repeat (first | refine blk_drewN ?_ _ | refine blk_drew ?_ | refine blk_alloc ?_ _)); refine blk_put (cs := #[.slice none 0 0, .slice none 0 0, .int .i64 0, .int .i64 0, .int .i64 0, .int .i64 0, .int .i64 0, .int .i64 0, .int .i64 0, .int .i64 0, .int .i64 0, .int .u64 0, .slice none 0 0]) ?_ 0 _ rfl; (with_reducible repeat (first | refine blk_drewN ?_ _ | refine blk_drew ?_ | refine blk_alloc ?_ _)); exact BK540.out) hb); replace HB := Aside0.mk (below_step (by repeat (first | (with_reducible first | exact HB.out | apply below_alloc | apply pw_below_drewN | apply below_drew1 | refine below_set ?_ GE515.out | refine below_set ?_ GE540.out) | exact HB.out)) hb); (try clear hb); (try clear ho0); obtain ⟨Ao90, co90, eo90⟩ := Kd.R_slice HO543.out; subst eo90; obtain ⟨hcz91_0, hcz91_1, hcz91_2, hcz91_3, hcz91_4, hcz91_5, hcz91_6, hcz91_7, hcz91_8, hcz91_9, hcz91_10, hcz91_11, hcz91_12⟩ := blkc13 BK540.out; obtain ⟨hfz91_0, hfz91_1, hfz91_2, hfz91_3, hfz91_4, hfz91_5, hfz91_6, hfz91_7, hfz91_8, hfz91_9, hfz91_10, hfz91_11, hfz91_12⟩ := blkf13 BK540.out) | ((with_reducible refine gate_callee (f := 8) rfl ?_); refine goesL_ (some 31) rfl rfl Try.func8 (by kernel_rfl) rfl #[.agg #[.slice Ao84 t521.length co84, .slice Ao87 t524.length co87, .int .i64 t527, .int .i64 t528, .int .i64 t529, .int .i64 t530, .int .i64 t531, .int .i64 t532, .int .i64 t533, .int .i64 t534, .int .i64 t535, .int .u64 t536, .slice Ao90 t541.length co90]] rfl (by (try simp only [List.map_toArray, List.map_cons, List.map_nil]); first | done | rfl | (simp only [List.length_drop, List.length_take]; rfl)) ?_; (with_reducible refine (conf_Check.calls kj5 _ _ t521 _ _ t524 t527 t528 t529 t530 t531 t532 t533 t534 t535 t536 _ _ t541 t544 _ ?side1 ?side2 ?side3 ?side4 ?side5 ?side6 A24.out).mono ?_); (case side1 => refine (Kd.R_reads' (e := 46) (base := w.heap.size) (ok := fun k_ => True) (n := t521.length) (c := co84) ?_).2.2; exact ((Kd.R_mono (Kd.rfR (Kd.R_types HO523.out BK540.out (by decide))) (fun _ h_ => h_.1)))); (case side2 => exact (Kd.R_reads' HO523.out).2.1); (case side3 => refine (Kd.R_reads' (e := 48) (base := w.heap.size) (ok := fun k_ => True) (n := t524.length) (c := co87) ?_).2.2; exact ((Kd.R_mono (Kd.rfR (Kd.R_types HO526.out BK540.out (by decide))) (fun _ h_ => h_.1)))); (case side4 => exact (Kd.R_reads' HO526.out).2.1); (case side5 => refine (Kd.R_reads' (e := 50) (base := w.heap.size) (ok := fun k_ => (True ∧ some k_ ≠ (.slice Ao88 t537.length co88 : Value).ownBlock)) (n := t541.length) (c := co90) ?_).2.2; exact ((Kd.R_mono (Kd.rfR (Kd.R_types HO543.out BK540.out (by decide))) (fun _ h_ => h_.1)))); (case side6 => exact (Kd.R_reads' HO543.out).2.1); rintro e w92 ⟨rfl, hb⟩; refine ⟨_, rfl, ?_⟩; replace HO523 := Aside0.mk (Kd.R_below ((Kd.R_mono (Kd.rfR (Kd.R_types HO523.out BK540.out (by decide))) (fun _ h_ => h_.1))) hb); replace HO526 := Aside0.mk (Kd.R_below ((Kd.R_mono (Kd.rfR (Kd.R_types HO526.out BK540.out (by decide))) (fun _ h_ => h_.1))) hb); replace HO539 := Aside0.mk (Kd.R_below ((Kd.R_mono (Kd.rfR (Kd.R_types HO539.out BK540.out (by decide))) (fun _ h_ => h_.1))) hb); replace HO543 := Aside0.mk (Kd.R_below ((Kd.R_mono (Kd.rfR (Kd.R_types HO543.out BK540.out (by decide))) (fun _ h_ => h_.1))) hb); replace BK515 := Aside0.mk (blk_below (g := gb515) (o := .cells #[.slice A0_0 l0_0.length c0_0, .slice A0_1 l0_1.length c0_1, .int .i64 a0_2, .int .i64 a0_3, .int .i64 a0_4, .int .i64 a0_5, .int .i64 a0_6, .int .i64 a0_7, .int .i64 a0_8, .int .i64 a0_9, .int .i64 a0_10, .int .u64 a0_11, .slice A0_12 l0_12.length c0_12] 27 (0, 0)) (by (with_reducible repeat (first | refine blk_drewN ?_ _ | refine blk_drew ?_ | refine blk_alloc ?_ _)); refine blk_far ?_ NB515_540.out _; (with_reducible repeat (first | refine blk_drewN ?_ _ | refine blk_drew ?_ | refine blk_alloc ?_ _)); exact BK515.out) hb); replace BK540 := Aside0.mk (blk_below (g := gb540) (o := .cells #[.slice Ao84 t521.length co84, .slice Ao87 t524.length co87, .int .i64 t527, .int .i64 t528, .int .i64 t529, .int .i64 t530, .int .i64 t531, .int .i64 t532, .int .i64 t533, .int .i64 t534, .int .i64 t535, .int .u64 t536, .slice Ao90 t541.length co90] 27 (0, 0)) (by (with_reducible repeat (first | refine blk_drewN ?_ _ | refine blk_drew ?_ | refine blk_alloc ?_ _)); refine blk_put (cs := #[.slice Ao84 t521.length co84, .slice Ao87 t524.length co87, .int .i64 t527, .int .i64 t528, .int .i64 t529, .int .i64 t530, .int .i64 t531, .int .i64 t532, .int .i64 t533, .int .i64 t534, .int .i64 t535, .int .u64 t536, .slice Ao88 t537.length co88]) ?_ 12 _ rfl; (with_reducible repeat (first | refine blk_drewN ?_ _ | refine blk_drew ?_ | refine blk_alloc ?_ _)); exact BK540.out) hb); replace HB := Aside0.mk (below_step (by repeat (first | (with_reducible first | exact HB.out | apply below_alloc | apply pw_below_drewN | apply below_drew1 | refine below_set ?_ GE515.out | refine below_set ?_ GE540.out) | exact HB.out)) hb); (try clear hb); (try clear hi)))
      go_ret
      exact ⟨by first | rfl | (simp [errW_none, errW_some] <;> rfl) | (simp [*, errW_none, errW_some] <;> rfl), HB.out⟩
    ·
     rw [if_neg c21] at H
     have c21b0 : (t519 == t520) = false := beq_eq_false_iff_ne.mpr c21
     have c21b1 : (t519 != t520) = true := bne_iff_ne.mpr c21
     obtain rfl := Option.some.inj H
     try go_wp2
     have n0_ := Aside0.mk (blk_drew BK515.out)
     have n1_ := Aside0.mk (below_drew1 HB.out)
     clear BK515
     clear HB
     have BK515 := n0_
     have HB := n1_
     clear n0_ n1_
     refine start_ (n := 5) (S := fun w' => w'.cell? ⟨gb515, 0, none⟩ = some (.slice A0_0 l0_0.length c0_0) ∧ w'.cell? ⟨gb515, 1, none⟩ = some (.slice A0_1 l0_1.length c0_1) ∧ w'.cell? ⟨gb515, 2, none⟩ = some (.int .i64 a0_2) ∧ w'.cell? ⟨gb515, 3, none⟩ = some (.int .i64 a0_3) ∧ w'.cell? ⟨gb515, 4, none⟩ = some (.int .i64 a0_4) ∧ w'.cell? ⟨gb515, 5, none⟩ = some (.int .i64 a0_5) ∧ w'.cell? ⟨gb515, 6, none⟩ = some (.int .i64 a0_6) ∧ w'.cell? ⟨gb515, 7, none⟩ = some (.int .i64 a0_7) ∧ w'.cell? ⟨gb515, 8, none⟩ = some (.int .i64 a0_8) ∧ w'.cell? ⟨gb515, 9, none⟩ = some (.int .i64 a0_9) ∧ w'.cell? ⟨gb515, 10, none⟩ = some (.int .i64 a0_10) ∧ w'.cell? ⟨gb515, 11, none⟩ = some (.int .u64 a0_11) ∧ w'.cell? ⟨gb515, 12, none⟩ = some (.slice A0_12 l0_12.length c0_12)) (ds := []) #[false,false,false,false,false] (by kernel_rfl) rfl rfl ⟨(blk_cell BK515.out 0).trans rfl, (blk_cell BK515.out 1).trans rfl, (blk_cell BK515.out 2).trans rfl, (blk_cell BK515.out 3).trans rfl, (blk_cell BK515.out 4).trans rfl, (blk_cell BK515.out 5).trans rfl, (blk_cell BK515.out 6).trans rfl, (blk_cell BK515.out 7).trans rfl, (blk_cell BK515.out 8).trans rfl, (blk_cell BK515.out 9).trans rfl, (blk_cell BK515.out 10).trans rfl, (blk_cell BK515.out 11).trans rfl, (blk_cell BK515.out 12).trans rfl⟩ (fun hHeld => ?_)
     generalize wc.drew = w93 at BK515 HB hHeld ⊢
     refine take_ (i := 0) (N := some 20) (v := ?_) (a' := ?_) #[true,false,false,false,false] rfl rfl (by kernel_rfl) (fun _ _ _ h => h) (Or.inl ⟨by rfl, ?_⟩) hHeld ?_ ?_
     rotate_left
     ·
      rintro w' ⟨s0, s1, s2, s3, s4, s5, s6, s7, s8, s9, s10, s11, s12⟩
      go_simp
      with_reducible rfl
     rotate_left
     ·
      simp only [Act.put, List.setIfInBounds_toArray, List.set_cons_zero, List.set_cons_succ, i64_w, i32_w]
      rfl
     refine take_ (i := 2) (N := some 22) (v := ?_) (a' := ?_) #[true,false,true,false,false] rfl rfl (by kernel_rfl) (fun _ _ _ h => h) (Or.inl ⟨by rfl, ?_⟩) hHeld ?_ ?_
     rotate_left
     ·
      rintro w' ⟨s0, s1, s2, s3, s4, s5, s6, s7, s8, s9, s10, s11, s12⟩
      go_simp
      with_reducible rfl
     rotate_left
     ·
      simp only [Act.put, List.setIfInBounds_toArray, List.set_cons_zero, List.set_cons_succ, i64_w, i32_w]
      rfl
     refine one_ (i := 1) (N := some 21) #[true,true,true,false,false] rfl rfl (by kernel_rfl) (by decide) (fun K hK => ?_)
     refine goes_ Try.func8 (by kernel_rfl) rfl #[.agg #[.slice A0_0 l0_0.length c0_0, .slice A0_1 l0_1.length c0_1, .int .i64 a0_2, .int .i64 a0_3, .int .i64 a0_4, .int .i64 a0_5, .int .i64 a0_6, .int .i64 a0_7, .int .i64 a0_8, .int .i64 a0_9, .int .i64 a0_10, .int .u64 a0_11, .slice A0_12 l0_12.length c0_12]] (by rfl) rfl rfl (by (try simp only [List.map_toArray, List.map_cons, List.map_nil]); first | done | rfl | (simp only [List.length_drop, List.length_take]; rfl)) ?_
     with_reducible refine (conf_Check.calls kj5 _ _ l0_0 _ _ l0_1 a0_2 a0_3 a0_4 a0_5 a0_6 a0_7 a0_8 a0_9 a0_10 a0_11 _ _ l0_12 t519 _ ?side1 ?side2 ?side3 ?side4 ?side5 ?side6 A19.out).mono ?_
     (case side1 => repeat (first | exact (Kd.C_below HR0_0.out HB.out) | (with_reducible refine Kd.C_alloc ?_ _) | (with_reducible refine Kd.C_drewN ?_ _) | (with_reducible refine Kd.C_drew ?_)))
     (case side2 => exact HC0_0.out)
     (case side3 => repeat (first | exact (Kd.C_below HR0_1.out HB.out) | (with_reducible refine Kd.C_alloc ?_ _) | (with_reducible refine Kd.C_drewN ?_ _) | (with_reducible refine Kd.C_drew ?_)))
     (case side4 => exact HC0_1.out)
     (case side5 => repeat (first | exact (Kd.C_below HR0_12.out HB.out) | (with_reducible refine Kd.C_alloc ?_ _) | (with_reducible refine Kd.C_drewN ?_ _) | (with_reducible refine Kd.C_drew ?_)))
     (case side6 => exact HC0_12.out)
     rintro e w94 ⟨rfl, hb⟩
     refine ⟨_, rfl, ?_⟩
     have n0_ := Aside0.mk (blk_below BK515.out hb)
     have n1_ := Aside0.mk (below_step (HB.out) hb)
     clear BK515
     clear HB
     have BK515 := n0_
     have HB := n1_
     clear n0_ n1_
     (try clear hb)
     (try clear hb2)
     (try clear hk)
     (try clear hi)
     refine hK.out _ _ ⟨(blk_cell BK515.out 0).trans rfl, (blk_cell BK515.out 1).trans rfl, (blk_cell BK515.out 2).trans rfl, (blk_cell BK515.out 3).trans rfl, (blk_cell BK515.out 4).trans rfl, (blk_cell BK515.out 5).trans rfl, (blk_cell BK515.out 6).trans rfl, (blk_cell BK515.out 7).trans rfl, (blk_cell BK515.out 8).trans rfl, (blk_cell BK515.out 9).trans rfl, (blk_cell BK515.out 10).trans rfl, (blk_cell BK515.out 11).trans rfl, (blk_cell BK515.out 12).trans rfl⟩ (fun hHeld => ?_)
     clear hK K
     refine norm_ (a' := ?_) ?_ ?_
     rotate_left
     ·
      show Act.put _ (some 21) _ = _
      simp only [Act.put, List.setIfInBounds_toArray, List.set_cons_zero, List.set_cons_succ, i64_w, i32_w]
      rfl
     refine one_ (i := 3) (N := some 23) #[true,true,true,true,false] rfl rfl (by kernel_rfl) (by decide) (fun K hK => ?_)
     refine goes_ Try.func9 (by kernel_rfl) rfl #[.agg #[.slice A0_0 l0_0.length c0_0, .slice A0_1 l0_1.length c0_1, .int .i64 a0_2, .int .i64 a0_3, .int .i64 a0_4, .int .i64 a0_5, .int .i64 a0_6, .int .i64 a0_7, .int .i64 a0_8, .int .i64 a0_9, .int .i64 a0_10, .int .u64 a0_11, .slice A0_12 l0_12.length c0_12]] (by rfl) rfl rfl (by (try simp only [List.map_toArray, List.map_cons, List.map_nil]); first | done | rfl | (simp only [List.length_drop, List.length_take]; rfl)) ?_
     with_reducible refine (busbarref12_Check.calls kj5 _ _ l0_0 _ _ l0_1 a0_2 a0_3 a0_4 a0_5 a0_6 a0_7 a0_8 a0_9 a0_10 a0_11 _ _ l0_12 t520 _ ?side1 ?side2 ?side3 ?side4 ?side5 ?side6 A20.out).mono ?_
     (case side1 => repeat (first | exact (Kd.C_below HR0_0.out HB.out) | (with_reducible refine Kd.C_alloc ?_ _) | (with_reducible refine Kd.C_drewN ?_ _) | (with_reducible refine Kd.C_drew ?_)))
     (case side2 => exact HC0_0.out)
     (case side3 => repeat (first | exact (Kd.C_below HR0_1.out HB.out) | (with_reducible refine Kd.C_alloc ?_ _) | (with_reducible refine Kd.C_drewN ?_ _) | (with_reducible refine Kd.C_drew ?_)))
     (case side4 => exact HC0_1.out)
     (case side5 => repeat (first | exact (Kd.C_below HR0_12.out HB.out) | (with_reducible refine Kd.C_alloc ?_ _) | (with_reducible refine Kd.C_drewN ?_ _) | (with_reducible refine Kd.C_drew ?_)))
     (case side6 => exact HC0_12.out)
     rintro e w95 ⟨rfl, hb⟩
     refine ⟨_, rfl, ?_⟩
     have n0_ := Aside0.mk (blk_below BK515.out hb)
     have n1_ := Aside0.mk (below_step (HB.out) hb)
     clear BK515
     clear HB
     have BK515 := n0_
     have HB := n1_
     clear n0_ n1_
     (try clear hb)
     (try clear hb2)
     (try clear hk)
     (try clear hi)
     refine hK.out _ _ ⟨(blk_cell BK515.out 0).trans rfl, (blk_cell BK515.out 1).trans rfl, (blk_cell BK515.out 2).trans rfl, (blk_cell BK515.out 3).trans rfl, (blk_cell BK515.out 4).trans rfl, (blk_cell BK515.out 5).trans rfl, (blk_cell BK515.out 6).trans rfl, (blk_cell BK515.out 7).trans rfl, (blk_cell BK515.out 8).trans rfl, (blk_cell BK515.out 9).trans rfl, (blk_cell BK515.out 10).trans rfl, (blk_cell BK515.out 11).trans rfl, (blk_cell BK515.out 12).trans rfl⟩ (fun hHeld => ?_)
     clear hK K
     refine norm_ (a' := ?_) ?_ ?_
     rotate_left
     ·
      show Act.put _ (some 23) _ = _
      simp only [Act.put, List.setIfInBounds_toArray, List.set_cons_zero, List.set_cons_succ, i64_w, i32_w]
      rfl
     refine pure_ (i := 4) (N := some 24) (v := ?_) (a' := ?_) #[true,true,true,true,true] rfl rfl (by kernel_rfl) (fun _ _ _ h => h) (Or.inl ⟨by rfl, ?_⟩) ?_ ?_
     rotate_left
     ·
      intro w'
      go_simp
      with_reducible rfl
     rotate_left
     ·
      simp only [Act.put, List.setIfInBounds_toArray, List.set_cons_zero, List.set_cons_succ, i64_w, i32_w]
      rfl
     refine done_ (by kernel_rfl) ?_
     try go_wp2
     go_ret
     exact ⟨by first | rfl | (simp [errW_none, errW_some] <;> rfl) | (simp [*, errW_none, errW_some] <;> rfl), HB.out⟩
end Go.Proofs.Ytjlbgopgeepiaaa.PConf
