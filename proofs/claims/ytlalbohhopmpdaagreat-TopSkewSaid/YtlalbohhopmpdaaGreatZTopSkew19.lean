/- Words and walks for TopSkew (made of the session's own texts; each part by itself). -/
import Derived.Test.YtlalbohhopmpdaaGreatZTopSkew18
set_option maxRecDepth 100000
set_option maxHeartbeats 8000000
set_option linter.unusedVariables false
set_option linter.unusedSimpArgs false
namespace Go.Proofs.YtlalbohhopmpdaaGreat.PTop
open Go.Proofs.YtlalbohhopmpdaaGreat.Tiny
open Go.RowKit Go.YW.PrintWords Go.YW.PrintLast Go.YW.PrintMore
attribute [local go_sem] yU yT xE xC xe yZ xJ xK zm zu   -- for this text's walks alone
def zB.j0 : Nat → List Int → Int → Bool → Option (Int × Int × Int × Int)
 | 0, _, _, _ => none
 | k + 1, x0, x4, x21 => if x21 = true then (some (0, 0, 0, 2)) else (if (x0.length : Int) = 6 then (some (0, 0, 0, 3)) else ((zN.f x0 0).bind fun t797 => (if 6 < (x0.length : Int) then (some (t797, x4, wrap64 (rd x0 6), 0)) else (none))))
def zB.f (k : Nat) (l0 : List Int) : Option (Int × Int × Int × Int) := if (l0.length : Int) < 6 then (some (0, 0, 0, 3)) else ((zN.f l0 4).bind fun t795 => ((zN.f l0 2).bind fun t796 => (if t796 = 0 then (if t795 < 2 then (zB.j0 k l0 t795 true) else (zB.j0 k l0 t795 (decide (t795 > 254)))) else (zB.j0 k l0 t795 true))))
def zB.T8 : Bool × List (List Nat × List Nat) := (true, [([], []), ([0], [0]), ([], []), ([], []), ([3], [3]), ([4], [4]), ([5], [5]), ([1, 2, 6], [1, 2, 6]), ([7, 1, 0, 1, 2, 3, 4, 5, 6, 7], [7]), ([8, 0, 1, 2, 3, 4, 5, 6, 7, 8], [])])
def zB.B8 : List Nat := [0, 1, 0, 0, 8, 24, 56, 127, 255, 511]
theorem zB.tab8 : jG .any (opsOf Tryz.f43 8) = zB.T8 := by kernel_rfl
theorem zB.bits8 : jN zB.T8.2 zB.B8 = true := by kernel_rfl
theorem zB.calls (k : Nat) (A0 : Option Addr) (c0 : Nat) (l0 : List Int) (r1 : Int) (r2 : Int) (r3 : Int) (r4 : Int) (w : World) (hr0 : Kd.C (Kd.int .u8) w A0 l0.length l0) (hc0 : l0.length ≤ c0) (h : zB.f k l0 = some (r1, r2, r3, r4)) :
  Calls Tryz.prog 43 #[.slice A0 l0.length c0] w fun e w' => e = .returned (.tuple #[.agg #[.int .i64 r1, .int .i64 r2, .int .i64 r3], .int .i64 r4]) ∧ Below w.heap.size w w' := by
 have hu110 := Tryz.underlying110
 have HR0 := zf.mk hr0
 have HC0 := zf.mk hc0
 clear hr0 hc0
 have HB := zf.mk (Below.refl w.heap.size w)
 have H : (if (l0.length : Int) < 6 then (some (0, 0, 0, 3)) else ((zN.f l0 4).bind fun t795 => ((zN.f l0 2).bind fun t796 => (if t796 = 0 then (if t795 < 2 then (zB.j0 k l0 t795 true) else (zB.j0 k l0 t795 (decide (t795 > 254)))) else (zB.j0 k l0 t795 true))))) = some (r1, r2, r3, r4) := h
 clear h
 by_cases c2 : (l0.length : Int) < 6
 ·
  rw [if_pos c2] at H
  have c2b0 : decide ((l0.length : Int) < 6) = true := dT c2
  have c2b1 : decide (l0.length < 6) = true := decide_eq_true (by omega)
  clear c2
  simp only [Option.some.injEq, Prod.mk.injEq] at H
  obtain ⟨rfl, rfl, rfl, rfl⟩ := H
  go_enter Tryz.func43, Tryz.ntmps43
  go_wp2_with (first | ((with_reducible refine zS (N := 2) rfl ?_); refine yt ?hg (N := 2) ?hd (cs := #[.int .i64 0, .int .i64 0, .int .i64 0]) (t := 110) ?hr ?_; (case hd => rfl); (case hg => rfl); (case hr => first | (go_simp; done) | (go_simp; rfl)); intro gb794 hg w3 hbox hb; have BK794 := zf.mk (hbox); have GW794 := zf.mk ((by rw [hg]; exact (zq (HB.out)) : w.heap.size ≤ gb794)); have GE794 := zf.mk ((by rw [hg]; exact (zq (HB.out)) : w.heap.size ≤ gb794)); replace HB := zf.mk (zH (HB.out) hb); clear hb hbox hg; obtain ⟨hcz4_0, hcz4_1, hcz4_2⟩ := zV BK794.out; obtain ⟨hfz4_0, hfz4_1, hfz4_2⟩ := xq BK794.out))
  refine bodyPost_ret (qH rfl _ _ gb794 110 #[.int .i64 0, .int .i64 0, .int .i64 0] (0, 0) _ rfl (by (with_reducible repeat (first | refine zl ?_ _ | refine zo ?_ | refine zg ?_ _)); refine zO (cs := #[.int .i64 0, .int .i64 0, .int .i64 0]) ?_ 2 _ rfl; (with_reducible repeat (first | refine zl ?_ _ | refine zo ?_ | refine zg ?_ _)); refine zO (cs := #[.int .i64 0, .int .i64 0, .int .i64 0]) ?_ 1 _ rfl; (with_reducible repeat (first | refine zl ?_ _ | refine zo ?_ | refine zg ?_ _)); refine zO (cs := #[.int .i64 0, .int .i64 0, .int .i64 0]) ?_ 0 _ rfl; (with_reducible repeat (first | refine zl ?_ _ | refine zo ?_ | refine zg ?_ _)); exact BK794.out) Tryz.underlying110 rfl (by kernel_rfl)) rfl ?_
  exact ⟨by first | rfl | (simp [zD, zC] <;> rfl) | (simp [*, zD, zC] <;> rfl), by repeat (first | (with_reducible first | exact HB.out | apply zn | apply zt | apply zM | refine zP ?_ GE794.out) | exact HB.out)⟩
 ·
  rw [if_neg c2] at H
  have c2b0 : decide ((l0.length : Int) < 6) = false := dF c2
  have c2b1 : decide (l0.length < 6) = false := decide_eq_false (by omega)
  clear c2
  replace H := Option.bind_eq_some_iff.mp H
  obtain ⟨t795, A50, H⟩ := H
  have A5 := zf.mk A50
  clear A50
  have HC6 := zf.mk H
  clear H
  go_enter Tryz.func43, Tryz.ntmps43
  go_upto_region 4 with (first | ((with_reducible refine zS (N := 2) rfl ?_); refine yt ?hg (N := 2) ?hd (cs := #[.int .i64 0, .int .i64 0, .int .i64 0]) (t := 110) ?hr ?_; (case hd => rfl); (case hg => rfl); (case hr => first | (go_simp; done) | (go_simp; rfl)); intro gb794 hg w7 hbox hb; have BK794 := zf.mk (hbox); have GW794 := zf.mk ((by rw [hg]; exact (zq (HB.out)) : w.heap.size ≤ gb794)); have GE794 := zf.mk ((by rw [hg]; exact (zq (HB.out)) : w.heap.size ≤ gb794)); replace HB := zf.mk (zH (HB.out) hb); clear hb hbox hg) | ((with_reducible refine yg (f := 81) rfl ?_); refine xI (some 10) rfl rfl Tryz.func81 (by kernel_rfl) rfl #[.slice A0 l0.length c0, .int .i64 4] rfl (by (try simp only [List.map_toArray, List.map_cons, List.map_nil]); first | done | rfl | (simp only [List.length_drop, List.length_take]; rfl)) ?_; (with_reducible refine (zN.calls _ _ l0 4 t795 _ ?side1 ?side2 A5.out).mono ?_); (case side1 => repeat (first | exact (Kd.zz HR0.out HB.out) | (with_reducible refine Kd.yF ?_ _) | (with_reducible refine Kd.yH ?_ _) | (with_reducible refine Kd.yV ?_))); (case side2 => exact HC0.out); rintro e w' ⟨rfl, ⟨nd, rfl⟩⟩; refine ⟨_, rfl, ?_⟩))
  (try simp only [Act.put, List.setIfInBounds_toArray, List.set_cons_zero, List.set_cons_succ])
  go_cut [21] (fun v21 wc => ∃ (kq : Nat) (x21_5 : Bool), v21 = .bool x21_5 ∧ zf (zB.j0 kq l0 t795 x21_5 = some (r1, r2, r3, r4)) ∧ zf (kq ≤ k) ∧ zf (wc.heap[gb794]? = some (.cells #[.int .i64 0, .int .i64 0, .int .i64 0] 110 (0, 0))) ∧ zf (Below w.heap.size w wc))
  case first =>
   have H := HC6.out
   clear HC6
   replace H := Option.bind_eq_some_iff.mp H
   obtain ⟨t796, A80, H⟩ := H
   have A8 := zf.mk A80
   clear A80
   by_cases c9 : t796 = 0
   ·
    rw [if_pos c9] at H
    have c9b0 : (t796 == 0) = true := beq_iff_eq.mpr c9
    have c9b1 : (t796 != 0) = false := bne_eq_false_iff_eq.mpr c9
    clear c9
    (first | rw [c9b0] | (simp only [yX, xN]; rw [c9b0]) | skip)
    by_cases c10 : t795 < 2
    ·
     rw [if_pos c10] at H
     have c10b0 : decide (t795 < 2) = true := dT c10
     clear c10
     have H' := zf.mk H
     clear H
     go_wp2_with (first | ((with_reducible refine yg (f := 81) rfl ?_); refine xI (some 12) rfl rfl Tryz.func81 (by kernel_rfl) rfl #[.slice A0 l0.length c0, .int .i64 2] rfl (by (try simp only [List.map_toArray, List.map_cons, List.map_nil]); first | done | rfl | (simp only [List.length_drop, List.length_take]; rfl)) ?_; (with_reducible refine (zN.calls _ _ l0 2 t796 _ ?side1 ?side2 A8.out).mono ?_); (case side1 => repeat (first | exact (Kd.zz HR0.out HB.out) | (with_reducible refine Kd.yF ?_ _) | (with_reducible refine Kd.yH ?_ _) | (with_reducible refine Kd.yV ?_))); (case side2 => exact HC0.out); rintro e w' ⟨rfl, ⟨nd, rfl⟩⟩; refine ⟨_, rfl, ?_⟩))
     go_meet
     case rel => exact ⟨_, (true), (by first | rfl | (simp; done) | (simp [*]; done)), H', ⟨by first | omega | exact Nat.le_refl _⟩, ⟨by (with_reducible repeat (first | refine zl ?_ _ | refine zo ?_ | refine zg ?_ _)); exact BK794.out⟩, ⟨by repeat (first | (with_reducible first | exact HB.out | apply zn | apply zt | apply zM | refine zP ?_ GE794.out) | exact HB.out)⟩⟩
    ·
     rw [if_neg c10] at H
     have c10b0 : decide (t795 < 2) = false := dF c10
     clear c10
     have H' := zf.mk H
     clear H
     go_wp2_with (first | ((with_reducible refine yg (f := 81) rfl ?_); refine xI (some 12) rfl rfl Tryz.func81 (by kernel_rfl) rfl #[.slice A0 l0.length c0, .int .i64 2] rfl (by (try simp only [List.map_toArray, List.map_cons, List.map_nil]); first | done | rfl | (simp only [List.length_drop, List.length_take]; rfl)) ?_; (with_reducible refine (zN.calls _ _ l0 2 t796 _ ?side1 ?side2 A8.out).mono ?_); (case side1 => repeat (first | exact (Kd.zz HR0.out HB.out) | (with_reducible refine Kd.yF ?_ _) | (with_reducible refine Kd.yH ?_ _) | (with_reducible refine Kd.yV ?_))); (case side2 => exact HC0.out); rintro e w' ⟨rfl, ⟨nd, rfl⟩⟩; refine ⟨_, rfl, ?_⟩))
     go_meet
     case rel => exact ⟨_, (decide (t795 > 254)), (by first | rfl | (simp; done) | (simp [*]; done)), H', ⟨by first | omega | exact Nat.le_refl _⟩, ⟨by (with_reducible repeat (first | refine zl ?_ _ | refine zo ?_ | refine zg ?_ _)); exact BK794.out⟩, ⟨by repeat (first | (with_reducible first | exact HB.out | apply zn | apply zt | apply zM | refine zP ?_ GE794.out) | exact HB.out)⟩⟩
   ·
    rw [if_neg c9] at H
    have c9b0 : (t796 == 0) = false := beq_eq_false_iff_ne.mpr c9
    have c9b1 : (t796 != 0) = true := bne_iff_ne.mpr c9
    (first | rw [c9b0] | (simp only [yX, xN]; rw [c9b0]) | skip)
    have H' := zf.mk H
    clear H
    go_wp2_with (first | ((with_reducible refine yg (f := 81) rfl ?_); refine xI (some 12) rfl rfl Tryz.func81 (by kernel_rfl) rfl #[.slice A0 l0.length c0, .int .i64 2] rfl (by (try simp only [List.map_toArray, List.map_cons, List.map_nil]); first | done | rfl | (simp only [List.length_drop, List.length_take]; rfl)) ?_; (with_reducible refine (zN.calls _ _ l0 2 t796 _ ?side1 ?side2 A8.out).mono ?_); (case side1 => repeat (first | exact (Kd.zz HR0.out HB.out) | (with_reducible refine Kd.yF ?_ _) | (with_reducible refine Kd.yH ?_ _) | (with_reducible refine Kd.yV ?_))); (case side2 => exact HC0.out); rintro e w' ⟨rfl, ⟨nd, rfl⟩⟩; refine ⟨_, rfl, ?_⟩))
    go_meet
    case rel => exact ⟨_, (true), (by first | rfl | (simp; done) | (simp [*]; done)), H', ⟨by first | omega | exact Nat.le_refl _⟩, ⟨by (with_reducible repeat (first | refine zl ?_ _ | refine zo ?_ | refine zg ?_ _)); exact BK794.out⟩, ⟨by repeat (first | (with_reducible first | exact HB.out | apply zn | apply zt | apply zM | refine zP ?_ GE794.out) | exact HB.out)⟩⟩
  case rest =>
   clear HC6
   (try clear c2b0); (try clear c2b1); (try clear hfz4_2)
   obtain ⟨kq, x21_5, rfl, HA, HJ5, BK794, HB⟩ := hcut
   cases kq with
   | zero => exact absurd HA.out (by simp [zB.j0])
   | succ kj5 =>
    have H := HA.out
    clear HA
    simp only [zB.j0] at H
    by_cases c11 : x21_5 = true
    ·
     subst c11
     have H1 : (some (0, 0, 0, 2)) = some (r1, r2, r3, r4) := by rw [if_pos rfl] at H; exact H
     clear H
     have H := H1
     clear H1
     simp only [Option.some.injEq, Prod.mk.injEq] at H
     obtain ⟨rfl, rfl, rfl, rfl⟩ := H
     obtain ⟨hcz12_0, hcz12_1, hcz12_2⟩ := zV BK794.out
     obtain ⟨hfz12_0, hfz12_1, hfz12_2⟩ := xq BK794.out
     go_wp2
     refine bodyPost_ret (qH rfl _ _ gb794 110 #[.int .i64 0, .int .i64 0, .int .i64 0] (0, 0) _ rfl (by (with_reducible repeat (first | refine zl ?_ _ | refine zo ?_ | refine zg ?_ _)); refine zO (cs := #[.int .i64 0, .int .i64 0, .int .i64 0]) ?_ 2 _ rfl; (with_reducible repeat (first | refine zl ?_ _ | refine zo ?_ | refine zg ?_ _)); refine zO (cs := #[.int .i64 0, .int .i64 0, .int .i64 0]) ?_ 1 _ rfl; (with_reducible repeat (first | refine zl ?_ _ | refine zo ?_ | refine zg ?_ _)); refine zO (cs := #[.int .i64 0, .int .i64 0, .int .i64 0]) ?_ 0 _ rfl; (with_reducible repeat (first | refine zl ?_ _ | refine zo ?_ | refine zg ?_ _)); exact BK794.out) Tryz.underlying110 rfl (by kernel_rfl)) rfl ?_
     exact ⟨by first | rfl | (simp [zD, zC] <;> rfl) | (simp [*, zD, zC] <;> rfl), by repeat (first | (with_reducible first | exact HB.out | apply zn | apply zt | apply zM | refine zP ?_ GE794.out) | exact HB.out)⟩
    ·
     replace c11 := Bool.eq_false_iff.mpr c11
     subst c11
     have H1 : (if (l0.length : Int) = 6 then (some (0, 0, 0, 3)) else ((zN.f l0 0).bind fun t797 => (if 6 < (l0.length : Int) then (some (t797, t795, wrap64 (rd l0 6), 0)) else (none)))) = some (r1, r2, r3, r4) := by rw [if_neg (show ¬ (false = true) by decide)] at H; exact H
     clear H
     have H := H1
     clear H1
     by_cases c13 : (l0.length : Int) = 6
     ·
      rw [if_pos c13] at H
      have c13b0 : ((l0.length : Int) == 6) = true := beq_iff_eq.mpr c13
      have c13b1 : ((l0.length : Int) != 6) = false := bne_eq_false_iff_eq.mpr c13
      clear c13
      simp only [Option.some.injEq, Prod.mk.injEq] at H
      obtain ⟨rfl, rfl, rfl, rfl⟩ := H
      obtain ⟨hcz14_0, hcz14_1, hcz14_2⟩ := zV BK794.out
      obtain ⟨hfz14_0, hfz14_1, hfz14_2⟩ := xq BK794.out
      go_wp2
      refine bodyPost_ret (qH rfl _ _ gb794 110 #[.int .i64 0, .int .i64 0, .int .i64 0] (0, 0) _ rfl (by (with_reducible repeat (first | refine zl ?_ _ | refine zo ?_ | refine zg ?_ _)); refine zO (cs := #[.int .i64 0, .int .i64 0, .int .i64 0]) ?_ 2 _ rfl; (with_reducible repeat (first | refine zl ?_ _ | refine zo ?_ | refine zg ?_ _)); refine zO (cs := #[.int .i64 0, .int .i64 0, .int .i64 0]) ?_ 1 _ rfl; (with_reducible repeat (first | refine zl ?_ _ | refine zo ?_ | refine zg ?_ _)); refine zO (cs := #[.int .i64 0, .int .i64 0, .int .i64 0]) ?_ 0 _ rfl; (with_reducible repeat (first | refine zl ?_ _ | refine zo ?_ | refine zg ?_ _)); exact BK794.out) Tryz.underlying110 rfl (by kernel_rfl)) rfl ?_
      exact ⟨by first | rfl | (simp [zD, zC] <;> rfl) | (simp [*, zD, zC] <;> rfl), by repeat (first | (with_reducible first | exact HB.out | apply zn | apply zt | apply zM | refine zP ?_ GE794.out) | exact HB.out)⟩
     ·
      rw [if_neg c13] at H
      have c13b0 : ((l0.length : Int) == 6) = false := beq_eq_false_iff_ne.mpr c13
      have c13b1 : ((l0.length : Int) != 6) = true := bne_iff_ne.mpr c13
      replace H := Option.bind_eq_some_iff.mp H
      obtain ⟨t797, A150, H⟩ := H
      have A15 := zf.mk A150
      clear A150
      by_cases c16 : 6 < (l0.length : Int)
      ·
       rw [if_pos c16] at H
       have c16b0 : decide (6 < (l0.length : Int)) = true := dT c16
       have c16b1 : decide (6 < l0.length) = true := decide_eq_true (by omega)
       clear c16
       simp only [Option.some.injEq, Prod.mk.injEq] at H
       obtain ⟨rfl, rfl, rfl, rfl⟩ := H
       try go_wp2
       have n0_ := zf.mk (zo BK794.out)
       have n1_ := zf.mk (zM HB.out)
       clear BK794
       clear HB
       have BK794 := n0_
       have HB := n1_
       clear n0_ n1_
       have p798 : 0 ≤ (6 : Int) := (by omega)
       have q798 : 6 < (l0.length : Int) := of_decide_eq_true (by first | (with_reducible assumption) | assumption)
       obtain ⟨ad798, e798, hx798_0⟩ := Kd.kz HR0.out 6 p798 q798
       have hw798_0 := hx798_0
       (try rw [show ((6 : Int)).toNat = 6 from rfl] at hw798_0)
       (try rw [show 6 * 1 = 6 from rfl] at hw798_0)
       (try simp only [Nat.reduceMul, Nat.reduceEqDiff, Go.Addr.add, ↓reduceIte] at hw798_0)
       cases e798
       (try simp only [show (6 : Int).toNat = 6 from rfl, Nat.reduceMul, Nat.reduceEqDiff, Go.Addr.add, ↓reduceIte] at hx798_0)
       have qi798 : (6 < l0.length) = True := eq_true (by omega)
       (try rw [show ((6 : Int)).toNat = 6 from rfl] at hx798_0)
       replace hx798_0 := (HB.out.cell (World.block_lt_of_cell? w _ hx798_0)).trans hx798_0
       replace p798 := eq_true p798
       replace q798 := eq_true q798
       refine Zi (n := 10) (S := fun w' => w'.cell? ⟨ad798.block, ad798.off + 6, none⟩ = some (.int .u8 (rd l0 6))) (ds := []) #[false,false,false,false,false,false,false,false,false,false] (by kernel_rfl) rfl rfl (((HB.out.cell (World.block_lt_of_cell? w _ hw798_0)).trans hw798_0)) (fun hHeld => ?_); refine jO zB.tab8 zB.bits8 (fun HT_ HW_ => ?_)
       generalize wc.drew = w17 at BK794 HB hx798_0 hHeld ⊢
       refine pq_ 0 (some 27) ?_ (hc := yB HT_.out (by kernel_rfl))
       refine pq_ 2 (some 29) ?_ (hc := yB HT_.out (by kernel_rfl))
       refine pq_ 3 (some 30) ?_ (hc := yB HT_.out (by kernel_rfl))
       refine pq_ 4 (some 31) ?_ (hc := yB HT_.out (by kernel_rfl))
       refine tq_ 5 (some 32) hHeld ?_ (hc := qK HT_.out HW_.out (by kernel_rfl))
       refine pq_ 6 (some 33) ?_ (hc := yB HT_.out (by kernel_rfl))
       refine oq_ 1 (some 28) (fun K hK => ?_) (hc := kI HT_.out (by kernel_rfl))
       refine yo Tryz.func81 (by kernel_rfl) rfl #[.slice (some ad798) l0.length c0, .int .i64 0] (by rfl) rfl rfl (by (try simp only [List.map_toArray, List.map_cons, List.map_nil]); first | done | rfl | (simp only [List.length_drop, List.length_take]; rfl)) ?_
       with_reducible refine (zN.calls _ _ l0 0 t797 _ ?side1 ?side2 A15.out).mono ?_
       (case side1 => repeat (first | exact (Kd.zz HR0.out HB.out) | (with_reducible refine Kd.yF ?_ _) | (with_reducible refine Kd.yH ?_ _) | (with_reducible refine Kd.yV ?_)))
       (case side2 => exact HC0.out)
       rintro e w' ⟨rfl, ⟨nd, rfl⟩⟩
       refine ⟨_, rfl, ?_⟩
       refine hK.out _ _ (((HB.out.cell (World.block_lt_of_cell? w _ hw798_0)).trans hw798_0)) (fun hHeld => ?_)
       clear hK K
       refine nq_ ?_
       refine pq_ 7 (some 34) ?_ (hc := yB HT_.out (by kernel_rfl))
       refine oq_ 8 (none) (fun K hK => ?_) (hc := kI HT_.out (by kernel_rfl))
       have hs18 : w17.cell? ⟨gb794, 0, none⟩ = some (.int .i64 0) := (za BK794.out 0).trans rfl
       have hfs18 := zh BK794.out 0
       have hs19 : w17.cell? ⟨gb794, 1, none⟩ = some (.int .i64 0) := (za BK794.out 1).trans rfl
       have hfs19 := zh BK794.out 1
       have hs20 : w17.cell? ⟨gb794, 2, none⟩ = some (.int .i64 0) := (za BK794.out 2).trans rfl
       have hfs20 := zh BK794.out 2
       refine jJ (w1 := ?_) (by rfl) rfl ?_ ?_
       rotate_left
       ·
        go_simp
        rfl
       refine hK.out _ _ (((cell_far (p := ⟨gb794, _, none⟩) (by first | exact Nat.ne_of_lt (Nat.lt_of_lt_of_le (by have := World.block_lt_of_cell? _ _ hw798_0; first | rwa [add_block] at this | exact this) GW794.out) | (rw [add_block]; exact Nat.ne_of_lt (Nat.lt_of_lt_of_le (by have := World.block_lt_of_cell? _ _ hw798_0; first | rwa [add_block] at this | exact this) GW794.out)) | (show (Addr.add _ _).block ≠ _; rw [add_block]; exact Nat.ne_of_lt (Nat.lt_of_lt_of_le (by have := World.block_lt_of_cell? _ _ hw798_0; first | rwa [add_block] at this | exact this) GW794.out)) | (dsimp only; exact Nat.ne_of_lt (Nat.lt_of_lt_of_le (by have := World.block_lt_of_cell? _ _ hw798_0; first | rwa [add_block] at this | exact this) GW794.out))) _).trans (((cell_far (p := ⟨gb794, _, none⟩) (by first | exact Nat.ne_of_lt (Nat.lt_of_lt_of_le (by have := World.block_lt_of_cell? _ _ hw798_0; first | rwa [add_block] at this | exact this) GW794.out) | (rw [add_block]; exact Nat.ne_of_lt (Nat.lt_of_lt_of_le (by have := World.block_lt_of_cell? _ _ hw798_0; first | rwa [add_block] at this | exact this) GW794.out)) | (show (Addr.add _ _).block ≠ _; rw [add_block]; exact Nat.ne_of_lt (Nat.lt_of_lt_of_le (by have := World.block_lt_of_cell? _ _ hw798_0; first | rwa [add_block] at this | exact this) GW794.out)) | (dsimp only; exact Nat.ne_of_lt (Nat.lt_of_lt_of_le (by have := World.block_lt_of_cell? _ _ hw798_0; first | rwa [add_block] at this | exact this) GW794.out))) _).trans (((cell_far (p := ⟨gb794, _, none⟩) (by first | exact Nat.ne_of_lt (Nat.lt_of_lt_of_le (by have := World.block_lt_of_cell? _ _ hw798_0; first | rwa [add_block] at this | exact this) GW794.out) | (rw [add_block]; exact Nat.ne_of_lt (Nat.lt_of_lt_of_le (by have := World.block_lt_of_cell? _ _ hw798_0; first | rwa [add_block] at this | exact this) GW794.out)) | (show (Addr.add _ _).block ≠ _; rw [add_block]; exact Nat.ne_of_lt (Nat.lt_of_lt_of_le (by have := World.block_lt_of_cell? _ _ hw798_0; first | rwa [add_block] at this | exact this) GW794.out)) | (dsimp only; exact Nat.ne_of_lt (Nat.lt_of_lt_of_le (by have := World.block_lt_of_cell? _ _ hw798_0; first | rwa [add_block] at this | exact this) GW794.out))) _).trans (hHeld))))))) (fun hHeld => ?_)
       clear hK K
       refine pq_ 9 (some 3) ?_ (hc := yB HT_.out (by kernel_rfl))
       refine xP (vI HT_.out (by kernel_rfl)) ?_
       try go_wp2
       refine bodyPost_ret (qH rfl _ _ gb794 110 #[.int .i64 t797, .int .i64 t795, .int .i64 (wrap64 (rd l0 6))] (0, 0) _ rfl (by (with_reducible repeat (first | refine zl ?_ _ | refine zo ?_ | refine zg ?_ _)); refine zO (cs := #[.int .i64 t797, .int .i64 t795, .int .i64 0]) ?_ 2 _ rfl; (with_reducible repeat (first | refine zl ?_ _ | refine zo ?_ | refine zg ?_ _)); refine zO (cs := #[.int .i64 t797, .int .i64 0, .int .i64 0]) ?_ 1 _ rfl; (with_reducible repeat (first | refine zl ?_ _ | refine zo ?_ | refine zg ?_ _)); refine zO (cs := #[.int .i64 0, .int .i64 0, .int .i64 0]) ?_ 0 _ rfl; (with_reducible repeat (first | refine zl ?_ _ | refine zo ?_ | refine zg ?_ _)); exact BK794.out) Tryz.underlying110 rfl (by kernel_rfl)) rfl ?_
       exact ⟨by first | rfl | (simp [zD, zC] <;> rfl) | (simp [*, zD, zC] <;> rfl), by repeat (first | (with_reducible first | exact HB.out | apply zn | apply zt | apply zM | refine zP ?_ GE794.out) | exact HB.out)⟩
      ·
       rw [if_neg c16] at H
       exact absurd H (by simp)
def yz.f (k : Nat) (l0 : List Int) : Option (Int × Int × List Int × Int × Int) := (zB.f k l0).bind fun bt800 => (if bt800.2.2.2 = 0 then (if (l0.length : Int) < (wrap64 (6 + bt800.2.1)) then (some (0, 0, ([] : List Int), 0, 3)) else (if 7 ≤ (wrap64 (6 + bt800.2.1)) then (if (wrap64 (6 + bt800.2.1)) ≤ (l0.length : Int) then (if ([] : List Int).length + ((l0.take ((wrap64 (6 + bt800.2.1)) : Int).toNat).drop 7).length < 140737488355328 then (some (bt800.1, bt800.2.2.1, (([] : List Int) ++ ((l0.take ((wrap64 (6 + bt800.2.1)) : Int).toNat).drop 7)), wrap64 (6 + bt800.2.1), 0)) else (none)) else (none)) else (none))) else (some (0, 0, ([] : List Int), 0, bt800.2.2.2)))
def yz.T6 : Bool × List (List Nat × List Nat) := (true, [([], []), ([0], [0]), ([], []), ([2], [2]), ([], []), ([], []), ([5], [5]), ([6], [6]), ([4, 7], [4, 7]), ([8], [8]), ([1, 3, 9], [1, 3, 9]), ([], []), ([11], [11]), ([12], [12]), ([10, 9, 0, 1, 2, 3, 4, 5, 6, 7, 8, 9, 10], [10]), ([13, 14, 0, 1, 2, 3, 4, 5, 6, 7, 8, 9, 10, 11, 12, 13, 14], [13]), ([15, 0, 1, 2, 3, 4, 5, 6, 7, 8, 9, 10, 11, 12, 13, 14, 15], [])])
def yz.B6 : List Nat := [0, 1, 0, 4, 0, 0, 32, 96, 240, 496, 1023, 0, 2048, 6144, 2047, 32767, 65535]
theorem yz.tab6 : jG .any (opsOf Tryz.f18 6) = yz.T6 := by kernel_rfl
theorem yz.bits6 : jN yz.T6.2 yz.B6 = true := by kernel_rfl
theorem yz.calls (k : Nat) (A0 : Option Addr) (c0 : Nat) (l0 : List Int) (r1 : Int) (r2 : Int) (r3 : List Int) (r4 : Int) (r5 : Int) (w : World) (hr0 : Kd.C (Kd.int .u8) w A0 l0.length l0) (hc0 : l0.length ≤ c0) (h : yz.f k l0 = some (r1, r2, r3, r4, r5)) :
  Calls Tryz.prog 18 #[.slice A0 l0.length c0] w fun e w' => ∃ v2_ : Value, e = .returned (.tuple #[.agg #[.int .i64 r1, .int .i64 r2, v2_], .int .i64 r4, .int .i64 r5]) ∧ Kd.R (Kd.int .u8) 5 w' w.heap.size (fun _ => True) v2_ r3 ∧ Below w.heap.size w w' := by
 have hu68 := Tryz.underlying68
 have hu110 := Tryz.underlying110
 have HR0 := zf.mk hr0
 have HC0 := zf.mk hc0
 clear hr0 hc0
 have HB := zf.mk (Below.refl w.heap.size w)
 have H : ((zB.f k l0).bind fun bt800 => (if bt800.2.2.2 = 0 then (if (l0.length : Int) < (wrap64 (6 + bt800.2.1)) then (some (0, 0, ([] : List Int), 0, 3)) else (if 7 ≤ (wrap64 (6 + bt800.2.1)) then (if (wrap64 (6 + bt800.2.1)) ≤ (l0.length : Int) then (if ([] : List Int).length + ((l0.take ((wrap64 (6 + bt800.2.1)) : Int).toNat).drop 7).length < 140737488355328 then (some (bt800.1, bt800.2.2.1, (([] : List Int) ++ ((l0.take ((wrap64 (6 + bt800.2.1)) : Int).toNat).drop 7)), wrap64 (6 + bt800.2.1), 0)) else (none)) else (none)) else (none))) else (some (0, 0, ([] : List Int), 0, bt800.2.2.2)))) = some (r1, r2, r3, r4, r5) := h
 clear h
 replace H := Option.bind_eq_some_iff.mp H
 obtain ⟨⟨t800, t801, t802, t803⟩, A20, H⟩ := H
 replace H : (if t803 = 0 then (if (l0.length : Int) < (wrap64 (6 + t801)) then (some (0, 0, ([] : List Int), 0, 3)) else (if 7 ≤ (wrap64 (6 + t801)) then (if (wrap64 (6 + t801)) ≤ (l0.length : Int) then (if ([] : List Int).length + ((l0.take ((wrap64 (6 + t801)) : Int).toNat).drop 7).length < 140737488355328 then (some (t800, t802, (([] : List Int) ++ ((l0.take ((wrap64 (6 + t801)) : Int).toNat).drop 7)), wrap64 (6 + t801), 0)) else (none)) else (none)) else (none))) else (some (0, 0, ([] : List Int), 0, t803))) = some (r1, r2, r3, r4, r5) := H
 have A2 := zf.mk A20
 clear A20
 by_cases c3 : t803 = 0
 ·
  rw [if_pos c3] at H
  have c3b0 : (t803 == 0) = true := beq_iff_eq.mpr c3
  have c3b1 : (t803 != 0) = false := bne_eq_false_iff_eq.mpr c3
  clear c3
  by_cases c4 : (l0.length : Int) < (wrap64 (6 + t801))
  ·
   rw [if_pos c4] at H
   have c4b0 : decide ((l0.length : Int) < (wrap64 (6 + t801))) = true := dT c4
   clear c4
   simp only [Option.some.injEq, Prod.mk.injEq] at H
   obtain ⟨rfl, rfl, rfl, rfl, rfl⟩ := H
   go_enter Tryz.func18, Tryz.ntmps18
   go_wp2_with (first | ((with_reducible refine zS (N := 2) rfl ?_); refine yt ?hg (N := 2) ?hd (cs := #[.int .i64 0, .int .i64 0, .slice none 0 0]) (t := 68) ?hr ?_; (case hd => rfl); (case hg => rfl); (case hr => first | (go_simp; done) | (go_simp; rfl)); intro gb799 hg w5 hbox hb; have BK799 := zf.mk (hbox); have GW799 := zf.mk ((by rw [hg]; exact (zq (HB.out)) : w.heap.size ≤ gb799)); have GE799 := zf.mk ((by rw [hg]; exact (zq (HB.out)) : w.heap.size ≤ gb799)); replace HB := zf.mk (zH (HB.out) hb); clear hb hbox hg) | ((with_reducible refine yg (f := 43) rfl ?_); refine xI (some 9) rfl rfl Tryz.func43 (by kernel_rfl) rfl #[.slice A0 l0.length c0] rfl (by (try simp only [List.map_toArray, List.map_cons, List.map_nil]); first | done | rfl | (simp only [List.length_drop, List.length_take]; rfl)) ?_; (with_reducible refine (zB.calls k _ _ l0 t800 t801 t802 t803 _ ?side1 ?side2 A2.out).mono ?_); (case side1 => repeat (first | exact (Kd.zz HR0.out HB.out) | (with_reducible refine Kd.yF ?_ _) | (with_reducible refine Kd.yH ?_ _) | (with_reducible refine Kd.yV ?_))); (case side2 => exact HC0.out); rintro e w6 ⟨rfl, hb⟩; refine ⟨_, rfl, ?_⟩; replace BK799 := zf.mk (zb BK799.out hb); replace HB := zf.mk (zH (HB.out) hb); (try clear hb); (try clear hi)) | ((with_reducible refine zS (N := 5) rfl ?_); refine yt ?hg (N := 5) ?hd (cs := #[.int .i64 0, .int .i64 0, .int .i64 0]) (t := 110) ?hr ?_; (case hd => rfl); (case hg => rfl); (case hr => first | (go_simp; done) | (go_simp; rfl)); intro gb804 hg w7 hbox hb; have BK804 := zf.mk (hbox); have GW804 := zf.mk ((by rw [hg]; exact (zq (HB.out)) : w.heap.size ≤ gb804)); have GE804 := zf.mk ((by rw [hg]; exact (zq (HB.out)) : w.heap.size ≤ gb804)); replace HB := zf.mk (zH (HB.out) hb); have NB799_804 := zf.mk ((by rw [hg]; exact Nat.ne_of_lt (zF (g := gb799) (o := .cells #[.int .i64 0, .int .i64 0, .slice none 0 0] 68 (0, 0)) (BK799.out)) : gb799 ≠ gb804)); have NB804_799 := zf.mk ((by rw [hg]; exact Nat.ne_of_gt (zF (g := gb799) (o := .cells #[.int .i64 0, .int .i64 0, .slice none 0 0] 68 (0, 0)) (BK799.out)) : gb804 ≠ gb799)); replace BK799 := zf.mk (zb BK799.out hb); clear hb hbox hg; have hnb8 := NB804_799.out; have hnc8 := NB799_804.out; obtain ⟨hcz9_0, hcz9_1, hcz9_2⟩ := zV BK804.out; obtain ⟨hfz9_0, hfz9_1, hfz9_2⟩ := xq BK804.out; obtain ⟨hcz10_0, hcz10_1, hcz10_2⟩ := zV BK799.out; obtain ⟨hfz10_0, hfz10_1, hfz10_2⟩ := xq BK799.out))
   refine bodyPost_ret (qV rfl _ _ gb799 68 #[.int .i64 0, .int .i64 0, .slice none 0 0] (0, 0) _ rfl (by (with_reducible repeat (first | refine zl ?_ _ | refine zo ?_ | refine zg ?_ _)); refine zO (cs := #[.int .i64 0, .int .i64 0, .slice none 0 0]) ?_ 2 _ rfl; (with_reducible repeat (first | refine zl ?_ _ | refine zo ?_ | refine zg ?_ _)); refine zO (cs := #[.int .i64 0, .int .i64 0, .slice none 0 0]) ?_ 1 _ rfl; (with_reducible repeat (first | refine zl ?_ _ | refine zo ?_ | refine zg ?_ _)); refine zO (cs := #[.int .i64 0, .int .i64 0, .slice none 0 0]) ?_ 0 _ rfl; (with_reducible repeat (first | refine zl ?_ _ | refine zo ?_ | refine zg ?_ _)); refine yJ ?_ NB799_804.out _; (with_reducible repeat (first | refine zl ?_ _ | refine zo ?_ | refine zg ?_ _)); refine yJ ?_ NB799_804.out _; (with_reducible repeat (first | refine zl ?_ _ | refine zo ?_ | refine zg ?_ _)); refine yJ ?_ NB799_804.out _; (with_reducible repeat (first | refine zl ?_ _ | refine zo ?_ | refine zg ?_ _)); exact BK799.out) Tryz.underlying68 rfl (by kernel_rfl)) rfl ?_
   exact ⟨_, by first | rfl | (simp [zD, zC] <;> rfl) | (simp [*, zD, zC] <;> rfl), by first | exact Kd.xM _ _ _ _ _ | exact Kd.N_nil _ _ _ _ _ | exact Kd.V_nil _ _ _ _ _ | exact Kd.Q_nil _ _ _ _ _ | exact Kd.S_nil _ _ _ _ _, by repeat (first | (with_reducible first | exact HB.out | apply zn | apply zt | apply zM | refine zP ?_ GE799.out | refine zP ?_ GE804.out) | exact HB.out)⟩
  ·
   rw [if_neg c4] at H
   have c4b0 : decide ((l0.length : Int) < (wrap64 (6 + t801))) = false := dF c4
   clear c4
   by_cases c11 : 7 ≤ (wrap64 (6 + t801))
   ·
    rw [if_pos c11] at H
    have c11b0 := eq_true c11
    have c11b1 : decide (7 ≤ (wrap64 (6 + t801))) = true := dT c11
    by_cases c12 : (wrap64 (6 + t801)) ≤ (l0.length : Int)
    ·
     rw [if_pos c12] at H
     have c12b0 := eq_true c12
     have c12b1 : decide ((wrap64 (6 + t801)) ≤ (l0.length : Int)) = true := dT c12
     by_cases c13 : ([] : List Int).length + ((l0.take ((wrap64 (6 + t801)) : Int).toNat).drop 7).length < 140737488355328
     ·
      rw [if_pos c13] at H
      have LMc13 := zf.mk c13
      clear c13
      obtain ⟨y806, hy806⟩ : ∃ y_ : List Int, y_ = (([] : List Int) ++ ((l0.take ((wrap64 (6 + t801)) : Int).toNat).drop 7)) := ⟨_, rfl⟩
      replace H : (some (t800, t802, y806, wrap64 (6 + t801), 0)) = some (r1, r2, r3, r4, r5) := by first | (rw [hy806]; with_reducible exact H) | (have H2_ := (Option.bind_some _ _).symm.trans H; rw [hy806]; with_reducible exact H2_) | (have H2_ := (Option.bind_some _ _).symm.trans H; with_reducible exact H2_) | with_reducible exact H | (rw [hy806]; exact H) | exact H
      have Ny806 := zf.mk hy806
      clear hy806
      simp only [Option.some.injEq, Prod.mk.injEq] at H
      obtain ⟨rfl, rfl, rfl, rfl, rfl⟩ := H
      go_enter Tryz.func18, Tryz.ntmps18
      try go_wp2_with (first | ((with_reducible refine zS (N := 2) rfl ?_); refine yt ?hg (N := 2) ?hd (cs := #[.int .i64 0, .int .i64 0, .slice none 0 0]) (t := 68) ?hr ?_; (case hd => rfl); (case hg => rfl); (case hr => first | (go_simp; done) | (go_simp; rfl)); intro gb799 hg w14 hbox hb; have BK799 := zf.mk (hbox); have GW799 := zf.mk ((by rw [hg]; exact (zq (HB.out)) : w.heap.size ≤ gb799)); have GE799 := zf.mk ((by rw [hg]; exact (zq (HB.out)) : w.heap.size ≤ gb799)); replace HB := zf.mk (zH (HB.out) hb); clear hb hbox hg) | ((with_reducible refine yg (f := 43) rfl ?_); refine xI (some 9) rfl rfl Tryz.func43 (by kernel_rfl) rfl #[.slice A0 l0.length c0] rfl (by (try simp only [List.map_toArray, List.map_cons, List.map_nil]); first | done | rfl | (simp only [List.length_drop, List.length_take]; rfl)) ?_; (with_reducible refine (zB.calls k _ _ l0 t800 t801 t802 t803 _ ?side1 ?side2 A2.out).mono ?_); (case side1 => repeat (first | exact (Kd.zz HR0.out HB.out) | (with_reducible refine Kd.yF ?_ _) | (with_reducible refine Kd.yH ?_ _) | (with_reducible refine Kd.yV ?_))); (case side2 => exact HC0.out); rintro e w15 ⟨rfl, hb⟩; refine ⟨_, rfl, ?_⟩; replace BK799 := zf.mk (zb BK799.out hb); replace HB := zf.mk (zH (HB.out) hb); (try clear hb); (try clear hi)) | ((with_reducible refine zS (N := 5) rfl ?_); refine yt ?hg (N := 5) ?hd (cs := #[.int .i64 0, .int .i64 0, .int .i64 0]) (t := 110) ?hr ?_; (case hd => rfl); (case hg => rfl); (case hr => first | (go_simp; done) | (go_simp; rfl)); intro gb804 hg w16 hbox hb; have BK804 := zf.mk (hbox); have GW804 := zf.mk ((by rw [hg]; exact (zq (HB.out)) : w.heap.size ≤ gb804)); have GE804 := zf.mk ((by rw [hg]; exact (zq (HB.out)) : w.heap.size ≤ gb804)); replace HB := zf.mk (zH (HB.out) hb); have NB799_804 := zf.mk ((by rw [hg]; exact Nat.ne_of_lt (zF (g := gb799) (o := .cells #[.int .i64 0, .int .i64 0, .slice none 0 0] 68 (0, 0)) (BK799.out)) : gb799 ≠ gb804)); have NB804_799 := zf.mk ((by rw [hg]; exact Nat.ne_of_gt (zF (g := gb799) (o := .cells #[.int .i64 0, .int .i64 0, .slice none 0 0] 68 (0, 0)) (BK799.out)) : gb804 ≠ gb799)); replace BK799 := zf.mk (zb BK799.out hb); clear hb hbox hg; have hnb17 := NB804_799.out; have hnc17 := NB799_804.out; obtain ⟨hcz18_0, hcz18_1, hcz18_2⟩ := zV BK804.out; obtain ⟨hfz18_0, hfz18_1, hfz18_2⟩ := xq BK804.out))
      have n0_ : zf ((((w16.setCell ⟨gb804, 0, none⟩ (.int .i64 t800)).setCell ⟨gb804, 1, none⟩ (.int .i64 t801)).setCell ⟨gb804, 2, none⟩ (.int .i64 t802)).heap[gb799]? = some (.cells #[.int .i64 0, .int .i64 0, .slice none 0 0] 68 (0, 0))) := ⟨by (with_reducible repeat (first | refine zl ?_ _ | refine zo ?_ | refine zg ?_ _)); refine yJ ?_ NB799_804.out _; (with_reducible repeat (first | refine zl ?_ _ | refine zo ?_ | refine zg ?_ _)); refine yJ ?_ NB799_804.out _; (with_reducible repeat (first | refine zl ?_ _ | refine zo ?_ | refine zg ?_ _)); refine yJ ?_ NB799_804.out _; (with_reducible repeat (first | refine zl ?_ _ | refine zo ?_ | refine zg ?_ _)); exact BK799.out⟩
      have n1_ : zf ((((w16.setCell ⟨gb804, 0, none⟩ (.int .i64 t800)).setCell ⟨gb804, 1, none⟩ (.int .i64 t801)).setCell ⟨gb804, 2, none⟩ (.int .i64 t802)).heap[gb804]? = some (.cells #[.int .i64 t800, .int .i64 t801, .int .i64 t802] 110 (0, 0))) := ⟨by (with_reducible repeat (first | refine zl ?_ _ | refine zo ?_ | refine zg ?_ _)); refine zO (cs := #[.int .i64 t800, .int .i64 t801, .int .i64 0]) ?_ 2 _ rfl; (with_reducible repeat (first | refine zl ?_ _ | refine zo ?_ | refine zg ?_ _)); refine zO (cs := #[.int .i64 t800, .int .i64 0, .int .i64 0]) ?_ 1 _ rfl; (with_reducible repeat (first | refine zl ?_ _ | refine zo ?_ | refine zg ?_ _)); refine zO (cs := #[.int .i64 0, .int .i64 0, .int .i64 0]) ?_ 0 _ rfl; (with_reducible repeat (first | refine zl ?_ _ | refine zo ?_ | refine zg ?_ _)); exact BK804.out⟩
      have n2_ : zf (Below w.heap.size w (((w16.setCell ⟨gb804, 0, none⟩ (.int .i64 t800)).setCell ⟨gb804, 1, none⟩ (.int .i64 t801)).setCell ⟨gb804, 2, none⟩ (.int .i64 t802))) := ⟨by repeat (first | (with_reducible first | exact HB.out | apply zn | apply zt | apply zM | refine zP ?_ GE799.out | refine zP ?_ GE804.out) | exact HB.out)⟩
      (try clear BK799)
      (try clear BK804)
      (try clear HB)
      first | (rw [qE (((w16.setCell ⟨gb804, 0, none⟩ (.int .i64 t800)).setCell ⟨gb804, 1, none⟩ (.int .i64 t801)).setCell ⟨gb804, 2, none⟩ (.int .i64 t802))]; generalize hq_ : World.drewN (((w16.setCell ⟨gb804, 0, none⟩ (.int .i64 t800)).setCell ⟨gb804, 1, none⟩ (.int .i64 t801)).setCell ⟨gb804, 2, none⟩ (.int .i64 t802)) _ = w19; have m0_ : zf (w19.heap[gb799]? = some (.cells #[.int .i64 0, .int .i64 0, .slice none 0 0] 68 (0, 0))) := ⟨by rw [← hq_]; first | exact Kd.xQ n0_.out _ | exact Kd.Q_drewN n0_.out _ | exact zl n0_.out _ | exact zt n0_.out _ | exact Kd.S_drewN n0_.out _ | exact n0_.out⟩; have m1_ : zf (w19.heap[gb804]? = some (.cells #[.int .i64 t800, .int .i64 t801, .int .i64 t802] 110 (0, 0))) := ⟨by rw [← hq_]; first | exact Kd.xQ n1_.out _ | exact Kd.Q_drewN n1_.out _ | exact zl n1_.out _ | exact zt n1_.out _ | exact Kd.S_drewN n1_.out _ | exact n1_.out⟩; have m2_ : zf (Below w.heap.size w w19) := ⟨by rw [← hq_]; first | exact Kd.xQ n2_.out _ | exact Kd.Q_drewN n2_.out _ | exact zl n2_.out _ | exact zt n2_.out _ | exact Kd.S_drewN n2_.out _ | exact n2_.out⟩; clear hq_ n0_ n1_ n2_; have n0_ := m0_; have n1_ := m1_; have n2_ := m2_; clear m0_ m1_ m2_) | (generalize (((w16.setCell ⟨gb804, 0, none⟩ (.int .i64 t800)).setCell ⟨gb804, 1, none⟩ (.int .i64 t801)).setCell ⟨gb804, 2, none⟩ (.int .i64 t802)) = w19 at n0_ n1_ n2_ ⊢)
      have BK799 := n0_
      have BK804 := n1_
      have HB := n2_
      clear n0_ n1_ n2_
      have n0_ := zf.mk (zo BK799.out)
      have n1_ := zf.mk (zo BK804.out)
      have n2_ := zf.mk (zM HB.out)
      clear BK799
      clear BK804
      clear HB
      have BK799 := n0_
      have BK804 := n1_
      have HB := n2_
      clear n0_ n1_ n2_
      obtain ⟨i021, hi021, _, hsz21, _⟩ := info_parts info5
      obtain ⟨A21, hcut21, hA21, hC21⟩ := Zz (P := Tryz.prog) (Value.int .u8) 0 59 5 .i64 .i64 Tryz.underlying59 hi021 hsz21 A0 c0 l0 7 (wrap64 (6 + t801)) (by omega) (by first | omega | exact of_decide_eq_true (by first | (with_reducible assumption) | assumption)) (of_decide_eq_true (by first | (with_reducible assumption) | assumption)) HC0.out
      have HR805 := zf.mk (Kd.Za (h1 := fun _ => rfl) (hA21 _ (Kd.kM HR0.out)))
      have HC805 := zf.mk hC21
      clear hA21 hC21 hi021 hsz21
      refine Zi (n := 17) (S := fun w' => w'.cell? ⟨gb804, 0, none⟩ = some (.int .i64 t800) ∧ w'.cell? ⟨gb804, 1, none⟩ = some (.int .i64 t801) ∧ w'.cell? ⟨gb804, 2, none⟩ = some (.int .i64 t802)) (ds := []) #[false,false,false,false,false,false,false,false,false,false,false,false,false,false,false,false,false] (by kernel_rfl) rfl rfl ⟨(za BK804.out 0).trans rfl, (za BK804.out 1).trans rfl, (za BK804.out 2).trans rfl⟩ (fun hHeld => ?_); refine jO yz.tab6 yz.bits6 (fun HT_ HW_ => ?_)
      generalize w19.drew = w20 at BK799 BK804 HB HR805 hHeld ⊢
      refine jw (i := 0) (N := some 23) (v := ?_) (a' := ?_) #[true,false,false,false,false,false,false,false,false,false,false,false,false,false,false,false,false] rfl rfl (yB HT_.out (by kernel_rfl)) (fun _ _ _ h => h) (Or.inl ⟨by rfl, ?_⟩) ?_ ?_
      rotate_left
      ·
       intro w'
       go_simp
       with_reducible rfl
      rotate_left
      ·
       simp only [Act.put, List.setIfInBounds_toArray, List.set_cons_zero, List.set_cons_succ, yX, xN]
       rfl
      refine jw (i := 2) (N := some 25) (v := ?_) (a' := ?_) #[true,false,true,false,false,false,false,false,false,false,false,false,false,false,false,false,false] rfl rfl (yB HT_.out (by kernel_rfl)) (fun _ _ _ h => h) (Or.inl ⟨by rfl, ?_⟩) ?_ ?_
      rotate_left
      ·
       intro w'
       go_simp
       with_reducible rfl
      rotate_left
      ·
       simp only [Act.put, List.setIfInBounds_toArray, List.set_cons_zero, List.set_cons_succ, yX, xN]
       rfl
      refine jw (i := 4) (N := some 27) (v := ?_) (a' := ?_) #[true,false,true,false,true,false,false,false,false,false,false,false,false,false,false,false,false] rfl rfl (yB HT_.out (by kernel_rfl)) (fun _ _ _ h => h) (Or.inl ⟨by rfl, ?_⟩) ?_ ?_
      rotate_left
      ·
       intro w'
       go_simp
       with_reducible rfl
      rotate_left
      ·
       simp only [Act.put, List.setIfInBounds_toArray, List.set_cons_zero, List.set_cons_succ, yX, xN]
       rfl
      refine jw (i := 5) (N := some 28) (v := ?_) (a' := ?_) #[true,false,true,false,true,true,false,false,false,false,false,false,false,false,false,false,false] rfl rfl (yB HT_.out (by kernel_rfl)) (fun _ _ _ h => h) (Or.inl ⟨by rfl, ?_⟩) ?_ ?_
      rotate_left
      ·
       intro w'
       go_simp
       with_reducible rfl
      rotate_left
      ·
       simp only [Act.put, List.setIfInBounds_toArray, List.set_cons_zero, List.set_cons_succ, yX, xN]
       rfl
      refine jw (i := 11) (N := some 34) (v := ?_) (a' := ?_) #[true,false,true,false,true,true,false,false,false,false,false,true,false,false,false,false,false] rfl rfl (yB HT_.out (by kernel_rfl)) (fun _ _ _ h => h) (Or.inl ⟨by rfl, ?_⟩) ?_ ?_
      rotate_left
      ·
       intro w'
       go_simp
       with_reducible rfl
      rotate_left
      ·
       simp only [Act.put, List.setIfInBounds_toArray, List.set_cons_zero, List.set_cons_succ, yX, xN]
       rfl
      refine take_ (i := 1) (N := some 24) (v := ?_) (a' := ?_) #[true,true,true,false,true,true,false,false,false,false,false,true,false,false,false,false,false] rfl rfl (qK HT_.out HW_.out (by kernel_rfl)) (fun _ _ _ h => h) (Or.inl ⟨by rfl, ?_⟩) hHeld ?_ ?_
      rotate_left
      ·
       rintro w' ⟨s0, s1, s2⟩
       go_simp
       with_reducible rfl
      rotate_left
      ·
       simp only [Act.put, List.setIfInBounds_toArray, List.set_cons_zero, List.set_cons_succ, yX, xN]
       rfl
      refine take_ (i := 3) (N := some 26) (v := ?_) (a' := ?_) #[true,true,true,true,true,true,false,false,false,false,false,true,false,false,false,false,false] rfl rfl (qK HT_.out HW_.out (by kernel_rfl)) (fun _ _ _ h => h) (Or.inl ⟨by rfl, ?_⟩) hHeld ?_ ?_
      rotate_left
      ·
       rintro w' ⟨s0, s1, s2⟩
       go_simp
       with_reducible rfl
      rotate_left
      ·
       simp only [Act.put, List.setIfInBounds_toArray, List.set_cons_zero, List.set_cons_succ, yX, xN]
       rfl
      refine take_ (i := 6) (N := some 29) (v := ?_) (a' := ?_) #[true,true,true,true,true,true,true,false,false,false,false,true,false,false,false,false,false] rfl rfl (qK HT_.out HW_.out (by kernel_rfl)) (fun _ _ _ h => h) (Or.inl ⟨by rfl, ?_⟩) hHeld ?_ ?_
      rotate_left
      ·
       rintro w' ⟨s0, s1, s2⟩
       go_simp
       with_reducible rfl
      rotate_left
      ·
       simp only [Act.put, List.setIfInBounds_toArray, List.set_cons_zero, List.set_cons_succ, yX, xN]
       rfl
      refine jw (i := 7) (N := some 30) (v := ?_) (a' := ?_) #[true,true,true,true,true,true,true,true,false,false,false,true,false,false,false,false,false] rfl rfl (yB HT_.out (by kernel_rfl)) (fun _ _ _ h => h) (Or.inl ⟨by rfl, ?_⟩) ?_ ?_
      rotate_left
      ·
       intro w'
       go_simp
       with_reducible rfl
      rotate_left
      ·
       simp only [Act.put, List.setIfInBounds_toArray, List.set_cons_zero, List.set_cons_succ, yX, xN]
       rfl
      refine jw (i := 8) (N := some 31) (v := ?_) (a' := ?_) #[true,true,true,true,true,true,true,true,true,false,false,true,false,false,false,false,false] rfl rfl (yB HT_.out (by kernel_rfl)) (fun _ _ _ h => h) (Or.inl ⟨by rfl, ?_⟩) ?_ ?_
      rotate_left
      ·
       intro w'
       go_simp
       with_reducible rfl
      rotate_left
      ·
       simp only [Act.put, List.setIfInBounds_toArray, List.set_cons_zero, List.set_cons_succ, yX, xN]
       rfl
      refine take_ (i := 12) (N := some 35) (v := ?_) (a' := ?_) #[true,true,true,true,true,true,true,true,true,false,false,true,true,false,false,false,false] rfl rfl (qK HT_.out HW_.out (by kernel_rfl)) (fun _ _ _ h => h) (Or.inl ⟨by rfl, ?_⟩) hHeld ?_ ?_
      rotate_left
      ·
       rintro w' ⟨s0, s1, s2⟩
       go_simp
       with_reducible rfl
      rotate_left
      ·
       simp only [Act.put, List.setIfInBounds_toArray, List.set_cons_zero, List.set_cons_succ, yX, xN]
       rfl
      refine jw (i := 13) (N := some 36) (v := ?_) (a' := ?_) #[true,true,true,true,true,true,true,true,true,false,false,true,true,true,false,false,false] rfl rfl (yB HT_.out (by kernel_rfl)) (fun _ _ _ h => h) (Or.inl ⟨by rfl, ?_⟩) ?_ ?_
      rotate_left
      ·
       intro w'
       go_simp
       with_reducible rfl
      rotate_left
      ·
       simp only [Act.put, List.setIfInBounds_toArray, List.set_cons_zero, List.set_cons_succ, yX, xN]
       rfl
      refine zc0 (i := 9) (N := some 32) #[true,true,true,true,true,true,true,true,true,true,false,true,true,true,false,false,false] rfl rfl (kI HT_.out (by kernel_rfl)) (by decide) (fun K hK => ?_)
      refine Kd.qm (Kd.int .u8) (w0 := w) w.heap.size (by rfl) (.const (.slice none 0 0)) (.tmp 31) 59 5 (.int .u8 0) 1 rfl Tryz.underlying59 info5 rfl (by decide) (by omega) (.slice none 0 0) ([] : List Int) ((l0.take ((wrap64 (6 + t801)) : Int).toNat).drop 7) _ _ _ (fun _ => True) (fun _ => False) rfl rfl ?aO ?aR (fun _ _ h => h) (fun _ h => h.elim) ?aF ?aB ?aS ?aL ?_
      (case aR => first | (rw [← show ((l0.take ((wrap64 (6 + t801)) : Int).toNat).drop 7).length = ((wrap64 (6 + t801)).toNat - 7) from (by rw [List.length_drop, List.length_take]; have h_ : ((wrap64 (6 + t801)) : Int) ≤ (l0.length : Int) := of_decide_eq_true (by first | (with_reducible assumption) | assumption); omega)]; repeat (first | exact (Kd.zz HR805.out HB.out) | (with_reducible refine Kd.yF ?_ _) | (with_reducible refine Kd.yH ?_ _) | (with_reducible refine Kd.yV ?_))) | (repeat (first | exact (Kd.zz HR805.out HB.out) | (with_reducible refine Kd.yF ?_ _) | (with_reducible refine Kd.yH ?_ _) | (with_reducible refine Kd.yV ?_))))
      (case aB => exact (HB.out))
      (case aF => exact (fun _ _ => trivial))
      (case aO => exact ((Kd.xM _ _ _ _ (fun _ => True))))
      (case aS => exact (zq (HB.out)))
      (case aL => have := LMc13.out; have hlx_ := (show ((l0.take ((wrap64 (6 + t801)) : Int).toNat).drop 7).length = ((wrap64 (6 + t801)).toNat - 7) from (by rw [List.length_drop, List.length_take]; have h_ : ((wrap64 (6 + t801)) : Int) ≤ (l0.length : Int) := of_decide_eq_true (by first | (with_reducible assumption) | assumption); omega)); omega)
      intro v807 w22 ho hb hg hat
      rw [← Ny806.out] at ho
      have n0_ := zf.mk (yG (g := gb799) (o := .cells #[.int .i64 0, .int .i64 0, .slice none 0 0] 68 (0, 0)) (BK799.out) hg (by simp [Value.ownBlock]))
      have n1_ := zf.mk (yG (g := gb804) (o := .cells #[.int .i64 t800, .int .i64 t801, .int .i64 t802] 110 (0, 0)) (BK804.out) hg (by simp [Value.ownBlock]))
      have n2_ := zf.mk (hb)
      have n3_ := zf.mk (ho)
      clear BK799
      clear BK804
      clear HB
      have BK799 := n0_
      have BK804 := n1_
      have HB := n2_
      have HO808 := n3_
      clear n0_ n1_ n2_ n3_
      clear ho hb hg hat
      obtain ⟨Ao23, co23, eo23⟩ := Kd.zX HO808.out
      (first | subst eo23 | (injection eo23 with f1_ f2_ f3_; have f4_ := f1_.symm; have f5_ := f3_.symm; clear f1_ f2_ f3_; subst f4_; subst f5_))
      refine hK.out _ _ ⟨(za BK804.out 0).trans rfl, (za BK804.out 1).trans rfl, (za BK804.out 2).trans rfl⟩ (fun hHeld => ?_)
      clear hK K
      refine kD (a' := ?_) ?_ ?_
      rotate_left
      ·
       show Act.put _ (some 32) _ = _
       simp only [Act.put, List.setIfInBounds_toArray, List.set_cons_zero, List.set_cons_succ, yX, xN]
       rfl
      refine jw (i := 10) (N := some 33) (v := ?_) (a' := ?_) #[true,true,true,true,true,true,true,true,true,true,true,true,true,true,false,false,false] rfl rfl (yB HT_.out (by kernel_rfl)) (fun _ _ _ h => h) (Or.inl ⟨by rfl, ?_⟩) ?_ ?_
      rotate_left
      ·
       intro w'
       go_simp
       with_reducible rfl
      rotate_left
      ·
       simp only [Act.put, List.setIfInBounds_toArray, List.set_cons_zero, List.set_cons_succ, yX, xN]
       rfl
      refine zc0 (i := 14) (N := none) #[true,true,true,true,true,true,true,true,true,true,true,true,true,true,true,false,false] rfl rfl (kI HT_.out (by kernel_rfl)) (by decide) (fun K hK => ?_)
      have hs24 : w22.cell? ⟨gb799, 0, none⟩ = some (.int .i64 0) := (za BK799.out 0).trans rfl
      have hfs24 := zh BK799.out 0
      have hns24_1 := NB804_799.out
      have hms24_1 := NB799_804.out
      have hs25 : w22.cell? ⟨gb799, 1, none⟩ = some (.int .i64 0) := (za BK799.out 1).trans rfl
      have hfs25 := zh BK799.out 1
      have hns25_1 := NB804_799.out
      have hms25_1 := NB799_804.out
      have hs26 : w22.cell? ⟨gb799, 2, none⟩ = some (.slice none 0 0) := (za BK799.out 2).trans rfl
      have hfs26 := zh BK799.out 2
      have hns26_1 := NB804_799.out
      have hms26_1 := NB799_804.out
      refine jJ (w1 := ?_) (by rfl) rfl ?_ ?_
      rotate_left
      ·
       go_simp
       rfl
      refine hK.out _ _ ⟨((cell_far (p := ⟨gb799, _, none⟩) NB804_799.out _).trans (((cell_far (p := ⟨gb799, _, none⟩) NB804_799.out _).trans (((cell_far (p := ⟨gb799, _, none⟩) NB804_799.out _).trans (hHeld.1)))))), ((cell_far (p := ⟨gb799, _, none⟩) NB804_799.out _).trans (((cell_far (p := ⟨gb799, _, none⟩) NB804_799.out _).trans (((cell_far (p := ⟨gb799, _, none⟩) NB804_799.out _).trans (hHeld.2.1)))))), ((cell_far (p := ⟨gb799, _, none⟩) NB804_799.out _).trans (((cell_far (p := ⟨gb799, _, none⟩) NB804_799.out _).trans (((cell_far (p := ⟨gb799, _, none⟩) NB804_799.out _).trans (hHeld.2.2))))))⟩ (fun hHeld => ?_)
      clear hK K
      refine jw (i := 15) (N := some 3) (v := ?_) (a' := ?_) #[true,true,true,true,true,true,true,true,true,true,true,true,true,true,true,true,false] rfl rfl (yB HT_.out (by kernel_rfl)) (fun _ _ _ h => h) (Or.inl ⟨by rfl, ?_⟩) ?_ ?_
      rotate_left
      ·
       intro w'
       go_simp
       with_reducible rfl
      rotate_left
      ·
       simp only [Act.put, List.setIfInBounds_toArray, List.set_cons_zero, List.set_cons_succ, yX, xN]
       rfl
      refine jw (i := 16) (N := some 4) (v := ?_) (a' := ?_) #[true,true,true,true,true,true,true,true,true,true,true,true,true,true,true,true,true] rfl rfl (yB HT_.out (by kernel_rfl)) (fun _ _ _ h => h) (Or.inl ⟨by rfl, ?_⟩) ?_ ?_
      rotate_left
      ·
       intro w'
       go_simp
       with_reducible rfl
      rotate_left
      ·
       simp only [Act.put, List.setIfInBounds_toArray, List.set_cons_zero, List.set_cons_succ, yX, xN]
       rfl
      refine xP (vI HT_.out (by kernel_rfl)) ?_
      try go_wp2
      refine bodyPost_ret (qV rfl _ _ gb799 68 #[.int .i64 t800, .int .i64 t802, .slice Ao23 y806.length co23] (0, 0) _ rfl (by (with_reducible repeat (first | refine zl ?_ _ | refine zo ?_ | refine zg ?_ _)); refine zO (cs := #[.int .i64 t800, .int .i64 t802, .slice none 0 0]) ?_ 2 _ rfl; (with_reducible repeat (first | refine zl ?_ _ | refine zo ?_ | refine zg ?_ _)); refine zO (cs := #[.int .i64 t800, .int .i64 0, .slice none 0 0]) ?_ 1 _ rfl; (with_reducible repeat (first | refine zl ?_ _ | refine zo ?_ | refine zg ?_ _)); refine zO (cs := #[.int .i64 0, .int .i64 0, .slice none 0 0]) ?_ 0 _ rfl; (with_reducible repeat (first | refine zl ?_ _ | refine zo ?_ | refine zg ?_ _)); exact BK799.out) Tryz.underlying68 rfl (by kernel_rfl)) rfl ?_
      exact ⟨_, by first | rfl | (simp [zD, zC] <;> rfl) | (simp [*, zD, zC] <;> rfl), Kd.yQ (Kd.rfR (Kd.rfR (Kd.rfR (Kd.Qa HO808.out BK799.out (by decide))))) (fun _ hk => trivial), by repeat (first | (with_reducible first | exact HB.out | apply zn | apply zt | apply zM | refine zP ?_ GE799.out | refine zP ?_ GE804.out) | exact HB.out)⟩
     ·
      rw [if_neg c13] at H
      exact absurd H (by simp)
    ·
     rw [if_neg c12] at H
     exact absurd H (by simp)
   ·
    rw [if_neg c11] at H
    exact absurd H (by simp)
 ·
  rw [if_neg c3] at H
  have c3b0 : (t803 == 0) = false := beq_eq_false_iff_ne.mpr c3
  have c3b1 : (t803 != 0) = true := bne_iff_ne.mpr c3
  simp only [Option.some.injEq, Prod.mk.injEq] at H
  obtain ⟨rfl, rfl, rfl, rfl, rfl⟩ := H
  go_enter Tryz.func18, Tryz.ntmps18
  go_wp2_with (first | ((with_reducible refine zS (N := 2) rfl ?_); refine yt ?hg (N := 2) ?hd (cs := #[.int .i64 0, .int .i64 0, .slice none 0 0]) (t := 68) ?hr ?_; (case hd => rfl); (case hg => rfl); (case hr => first | (go_simp; done) | (go_simp; rfl)); intro gb799 hg w27 hbox hb; have BK799 := zf.mk (hbox); have GW799 := zf.mk ((by rw [hg]; exact (zq (HB.out)) : w.heap.size ≤ gb799)); have GE799 := zf.mk ((by rw [hg]; exact (zq (HB.out)) : w.heap.size ≤ gb799)); replace HB := zf.mk (zH (HB.out) hb); clear hb hbox hg) | ((with_reducible refine yg (f := 43) rfl ?_); refine xI (some 9) rfl rfl Tryz.func43 (by kernel_rfl) rfl #[.slice A0 l0.length c0] rfl (by (try simp only [List.map_toArray, List.map_cons, List.map_nil]); first | done | rfl | (simp only [List.length_drop, List.length_take]; rfl)) ?_; (with_reducible refine (zB.calls k _ _ l0 t800 t801 t802 t803 _ ?side1 ?side2 A2.out).mono ?_); (case side1 => repeat (first | exact (Kd.zz HR0.out HB.out) | (with_reducible refine Kd.yF ?_ _) | (with_reducible refine Kd.yH ?_ _) | (with_reducible refine Kd.yV ?_))); (case side2 => exact HC0.out); rintro e w28 ⟨rfl, hb⟩; refine ⟨_, rfl, ?_⟩; replace BK799 := zf.mk (zb BK799.out hb); replace HB := zf.mk (zH (HB.out) hb); (try clear hb); (try clear hi)) | ((with_reducible refine zS (N := 5) rfl ?_); refine yt ?hg (N := 5) ?hd (cs := #[.int .i64 0, .int .i64 0, .int .i64 0]) (t := 110) ?hr ?_; (case hd => rfl); (case hg => rfl); (case hr => first | (go_simp; done) | (go_simp; rfl)); intro gb804 hg w29 hbox hb; have BK804 := zf.mk (hbox); have GW804 := zf.mk ((by rw [hg]; exact (zq (HB.out)) : w.heap.size ≤ gb804)); have GE804 := zf.mk ((by rw [hg]; exact (zq (HB.out)) : w.heap.size ≤ gb804)); replace HB := zf.mk (zH (HB.out) hb); have NB799_804 := zf.mk ((by rw [hg]; exact Nat.ne_of_lt (zF (g := gb799) (o := .cells #[.int .i64 0, .int .i64 0, .slice none 0 0] 68 (0, 0)) (BK799.out)) : gb799 ≠ gb804)); have NB804_799 := zf.mk ((by rw [hg]; exact Nat.ne_of_gt (zF (g := gb799) (o := .cells #[.int .i64 0, .int .i64 0, .slice none 0 0] 68 (0, 0)) (BK799.out)) : gb804 ≠ gb799)); replace BK799 := zf.mk (zb BK799.out hb); clear hb hbox hg; have hnb30 := NB804_799.out; have hnc30 := NB799_804.out; obtain ⟨hcz31_0, hcz31_1, hcz31_2⟩ := zV BK804.out; obtain ⟨hfz31_0, hfz31_1, hfz31_2⟩ := xq BK804.out; obtain ⟨hcz32_0, hcz32_1, hcz32_2⟩ := zV BK799.out; obtain ⟨hfz32_0, hfz32_1, hfz32_2⟩ := xq BK799.out))
  refine bodyPost_ret (qV rfl _ _ gb799 68 #[.int .i64 0, .int .i64 0, .slice none 0 0] (0, 0) _ rfl (by (with_reducible repeat (first | refine zl ?_ _ | refine zo ?_ | refine zg ?_ _)); refine zO (cs := #[.int .i64 0, .int .i64 0, .slice none 0 0]) ?_ 2 _ rfl; (with_reducible repeat (first | refine zl ?_ _ | refine zo ?_ | refine zg ?_ _)); refine zO (cs := #[.int .i64 0, .int .i64 0, .slice none 0 0]) ?_ 1 _ rfl; (with_reducible repeat (first | refine zl ?_ _ | refine zo ?_ | refine zg ?_ _)); refine zO (cs := #[.int .i64 0, .int .i64 0, .slice none 0 0]) ?_ 0 _ rfl; (with_reducible repeat (first | refine zl ?_ _ | refine zo ?_ | refine zg ?_ _)); refine yJ ?_ NB799_804.out _; (with_reducible repeat (first | refine zl ?_ _ | refine zo ?_ | refine zg ?_ _)); refine yJ ?_ NB799_804.out _; (with_reducible repeat (first | refine zl ?_ _ | refine zo ?_ | refine zg ?_ _)); refine yJ ?_ NB799_804.out _; (with_reducible repeat (first | refine zl ?_ _ | refine zo ?_ | refine zg ?_ _)); exact BK799.out) Tryz.underlying68 rfl (by kernel_rfl)) rfl ?_
  exact ⟨_, by first | rfl | (simp [zD, zC] <;> rfl) | (simp [*, zD, zC] <;> rfl), by first | exact Kd.xM _ _ _ _ _ | exact Kd.N_nil _ _ _ _ _ | exact Kd.V_nil _ _ _ _ _ | exact Kd.Q_nil _ _ _ _ _ | exact Kd.S_nil _ _ _ _ _, by repeat (first | (with_reducible first | exact HB.out | apply zn | apply zt | apply zM | refine zP ?_ GE799.out | refine zP ?_ GE804.out) | exact HB.out)⟩
end Go.Proofs.YtlalbohhopmpdaaGreat.PTop
namespace Go.Proofs.YtlalbohhopmpdaaGreat.LemBytesTop
open Go.RowKit Go.Proofs.YtlalbohhopmpdaaGreat.PTop Go.YW.PrintWords Go.YW.PrintLast Go.YW.PrintMore Go.Proofs.YtlalbohhopmpdaaGreat.Num
theorem put_eq (l : List Int) (w : Int) (h0 : 0 ≤ w) (h1 : w < 65536) (hl : l.length ≤ 100000) : xg.f l w = some (l ++ [w / 256, w % 256]) := by
  unfold xg.f
  rw [zA (by omega) (by omega), if_pos (by omega), if_pos (by omega)]
  simp only [Option.bind_some, List.replicate_zero, List.length_nil, List.nil_append, List.length_cons]
  rw [if_pos (by omega), if_pos (by omega)]
  congr 3
  omega
theorem YG (l : List Int) (i : Nat) (hl : l.length ≤ 100000) (h : i + 2 ≤ l.length) (hb : ∀ x ∈ l, 0 ≤ x ∧ x < 256) : yR.f l (i : Int) = some (l[i]'(by omega) * 256 + l[i + 1]'(by omega), true) := by
  unfold yR.f
  have ha := hb (l[i]'(by omega)) (List.getElem_mem _)
  have hc := hb (l[i + 1]'(by omega)) (List.getElem_mem _)
  have r0 : rd l (i : Int) = l[i]'(by omega) := by simp [rd, List.getD_eq_getElem?_getD, List.getElem?_eq_getElem (show i < l.length by omega)]
  have r1 : rd l ((i : Int) + 1) = l[i + 1]'(by omega) := by
    have : ((i : Int) + 1).toNat = i + 1 := by omega
    simp [rd, this, List.getD_eq_getElem?_getD, List.getElem?_eq_getElem (show i + 1 < l.length by omega)]
  rw [if_neg (by omega), zA (by omega) (by omega), if_neg (by omega), if_pos (by omega), if_pos (by omega), zA (by omega) (by omega), if_pos (by omega), if_pos (by omega), r0, r1]
  rw [jI (x := l[i]'(by omega)) (by omega) (by omega), jI (by omega) (by omega), jI (by omega) (by omega), ZM _ _ (by omega) (by omega) (by omega) (by omega) (by omega)]
end Go.Proofs.YtlalbohhopmpdaaGreat.LemBytesTop
namespace Go.Proofs.YtlalbohhopmpdaaGreat.LemHeadTop
open Go.RowKit Go.Proofs.YtlalbohhopmpdaaGreat.PTop Go.YW.PrintWords Go.YW.PrintLast Go.YW.PrintMore Go.Proofs.YtlalbohhopmpdaaGreat.Num Go.Proofs.YtlalbohhopmpdaaGreat.LemBytesTop
def Ok (t l u : Int) : Prop := 0 ≤ t ∧ t ≤ 65535 ∧ 2 ≤ l ∧ l ≤ 254 ∧ 0 ≤ u ∧ u ≤ 255
instance (t l u : Int) : Decidable (Ok t l u) := by unfold Ok; infer_instance
def hb (t l u : Int) : List Int := [t / 256, t % 256, 0, 0, 0, l, u]
theorem WQ (x a b : Int) (hab : a ≤ b) : (x == mn (mx x a) b) = decide (a ≤ x ∧ x ≤ b) := by
  rw [Bool.eq_iff_iff]
  simp only [beq_iff_eq, decide_eq_true_eq]
  unfold mn mx
  split <;> split <;> omega
theorem QP (t l u : Int) : (!(t == mn (mx t 0) 65535) || (!(l == mn (mx l 2) 254) || (!(u == mn (mx u 0) 255)))) = !decide (Ok t l u) := by
  have e : Ok t l u ↔ (0 ≤ t ∧ t ≤ 65535) ∧ (2 ≤ l ∧ l ≤ 254) ∧ (0 ≤ u ∧ u ≤ 255) := by unfold Ok; constructor <;> intro h <;> omega
  rw [WQ t 0 65535 (by omega), WQ l 2 254 (by omega), WQ u 0 255 (by omega), Bool.eq_iff_iff]
  simp only [Bool.or_eq_true, Bool.not_eq_true', decide_eq_false_iff_not, e]
  omega
theorem zcB (l : List Int) (h : l.length ≤ 100000) : l.length < 140737488355328 := by omega
theorem zdB (t l u : Int) (h : Ok t l u) : [] ++ [t / 256, t % 256] ++ [0 / 256, 0 % 256] ++ [l / 256, l % 256] ++ [u % 256] = hb t l u := by
  unfold Ok at h
  rw [show l / 256 = 0 by omega, show l % 256 = l by omega, show u % 256 = u by omega]
  rfl
theorem six (l : List Int) (h : 6 ≤ l.length) : ∃ b0 b1 b2 b3 b4 b5 r, l = b0 :: b1 :: b2 :: b3 :: b4 :: b5 :: r := by
  rcases l with _ | ⟨b0, _ | ⟨b1, _ | ⟨b2, _ | ⟨b3, _ | ⟨b4, _ | ⟨b5, r⟩⟩⟩⟩⟩⟩
  · simp at h
  · simp at h
  · simp at h
  · simp at h
  · simp at h
  · simp at h
  · exact ⟨b0, b1, b2, b3, b4, b5, r, rfl⟩
theorem zc1 (t l u : Int) (h : Ok t l u) : jA.f t l u = some (hb t l u, 0) := by
  unfold jA.f xL.f
  rw [Option.bind_some, QP, dT h, if_neg (by decide)]
  unfold Ok at h
  rw [jI (by omega) (by omega), put_eq _ _ (by omega) (by omega) (by simp only [List.length_append, List.length_cons, List.length_nil]; omega), Option.bind_some]
  rw [put_eq _ _ (by omega) (by omega) (by simp only [List.length_append, List.length_cons, List.length_nil]; omega), Option.bind_some]
  rw [jI (by omega) (by omega), put_eq _ _ (by omega) (by omega) (by simp only [List.length_append, List.length_cons, List.length_nil]; omega), Option.bind_some]
  rw [if_pos (zcB _ (by simp only [List.length_append, List.length_cons, List.length_nil]; omega)), zdB t l u (by unfold Ok; omega)]
theorem YZ (l : List Int) (w : Int) (h0 : 0 ≤ w) (h1 : w < 65536) (hl : l.length ≤ 100000) : xm.f l w = some (l ++ [w / 256, w % 256]) := by
  unfold xm.f
  rw [if_pos (by simp; omega)]
  simp only [Option.bind_some, List.nil_append, Js h0 (by omega : (0 : Int) ≤ 256), Jp h0]
  rw [if_pos (by simp; omega), jI (by omega) (by omega)]
  congr 3
  · omega
  · congr 1; omega
theorem zcW (l : List Int) (w : Int) (h0 : 0 ≤ w) (h1 : w < 65536) (hl : l.length ≤ 100000) : yI.f l w = some (l ++ [w / 256, w % 256]) := by
  unfold yI.f
  rw [jI (by omega) (by omega), YZ l w h0 h1 hl]
  rfl
def qw : List Int → Int × Int × Int × Int
  | b0 :: b1 :: b2 :: b3 :: b4 :: b5 :: r =>
    if b2 * 256 + b3 = 0 ∧ 2 ≤ b4 * 256 + b5 ∧ b4 * 256 + b5 ≤ 254 then (match r with | [] => (0, 0, 0, 3) | b6 :: _ => (b0 * 256 + b1, b4 * 256 + b5, b6, 0)) else (0, 0, 0, 2)
  | _ => (0, 0, 0, 3)
theorem KQ (b0 b1 b2 b3 b4 b5 : Int) : qw [b0, b1, b2, b3, b4, b5] = if b2 * 256 + b3 = 0 ∧ 2 ≤ b4 * 256 + b5 ∧ b4 * 256 + b5 ≤ 254 then (0, 0, 0, 3) else (0, 0, 0, 2) := rfl
theorem Ka (b0 b1 b2 b3 b4 b5 b6 : Int) (r : List Int) : qw (b0 :: b1 :: b2 :: b3 :: b4 :: b5 :: b6 :: r) = if b2 * 256 + b3 = 0 ∧ 2 ≤ b4 * 256 + b5 ∧ b4 * 256 + b5 ≤ 254 then (b0 * 256 + b1, b4 * 256 + b5, b6, 0) else (0, 0, 0, 2) := rfl
theorem ZU (l : List Int) (h : l.length < 6) : qw l = (0, 0, 0, 3) := by
  match l, h with
  | [], _ => rfl
  | [_], _ => rfl
  | [_, _], _ => rfl
  | [_, _, _], _ => rfl
  | [_, _, _, _], _ => rfl
  | [_, _, _, _, _], _ => rfl
theorem zc4 (l : List Int) (hl : l.length ≤ 100000) (hb : B8 l) {k : Nat} (hk : 2 ≤ k) : yh.f k l = some (qw l) := by
  obtain ⟨k, rfl⟩ : ∃ m, k = m + 1 := ⟨k - 1, by omega⟩
  unfold yh.f
  by_cases h6 : (l.length : Int) < 6
  · rw [if_pos h6, ZU l (by omega)]
  · rw [if_neg h6]
    obtain ⟨b0, b1, b2, b3, b4, b5, r, rfl⟩ := six l (by omega)
    · clear h6
      have g0 := YG (b0 :: b1 :: b2 :: b3 :: b4 :: b5 :: r) 0 hl (by simp) hb
      have g2 := YG (b0 :: b1 :: b2 :: b3 :: b4 :: b5 :: r) 2 hl (by simp) hb
      have g4 := YG (b0 :: b1 :: b2 :: b3 :: b4 :: b5 :: r) 4 hl (by simp) hb
      simp only [List.getElem_cons_zero, List.getElem_cons_succ] at g0 g2 g4
      have e0 : yR.f (b0 :: b1 :: b2 :: b3 :: b4 :: b5 :: r) 0 = some (b0 * 256 + b1, true) := g0
      have e2 : yR.f (b0 :: b1 :: b2 :: b3 :: b4 :: b5 :: r) 2 = some (b2 * 256 + b3, true) := g2
      have e4 : yR.f (b0 :: b1 :: b2 :: b3 :: b4 :: b5 :: r) 4 = some (b4 * 256 + b5, true) := g4
      have c0 := hb b0 (by simp)
      have c1 := hb b1 (by simp)
      have c2 := hb b2 (by simp)
      have c3 := hb b3 (by simp)
      have c4 := hb b4 (by simp)
      have c5 := hb b5 (by simp)
      rw [e0, e2, e4]
      simp only [Option.bind_some]
      have hj : ∀ a b c, yh.j0 (k + 1) (b0 :: b1 :: b2 :: b3 :: b4 :: b5 :: r) true a b c = some (0, 0, 0, 2) := by intros; simp [yh.j0]
      by_cases hp : b2 * 256 + b3 = 0
      · rw [if_pos hp, zA (x := b0 * 256 + b1) (by omega) (by omega), zA (x := b4 * 256 + b5) (by omega) (by omega)]
        unfold xL.f
        simp only [Option.bind_some]
        rw [QP]
        by_cases ho : 2 ≤ b4 * 256 + b5 ∧ b4 * 256 + b5 ≤ 254
        · rw [decide_eq_true (show Ok _ _ _ by unfold Ok; omega)]
          simp only [qw]
          rw [if_pos ⟨hp, ho⟩]
          simp only [Bool.not_true, yh.j0, Bool.false_eq_true, if_false]
          match r, hb with
          | [], _ => simp
          | b6 :: r, hb =>
            have c6 := hb b6 (by simp)
            rw [if_neg (by simp; omega), if_pos (by simp; omega)]
            have hr : rd (b0 :: b1 :: b2 :: b3 :: b4 :: b5 :: b6 :: r) 6 = b6 := by simp [rd]
            rw [hr, zA (by omega) (by omega)]
        · rw [decide_eq_false (show ¬ Ok _ _ _ by unfold Ok; omega)]
          simp only [qw]
          rw [if_neg (by omega)]
          exact hj _ _ _
      · rw [if_neg hp, hj]
        simp only [qw]
        rw [if_neg (by omega)]
theorem zaB (t l u : Int) (h : Ok t l u) (more : List Int) : qw (hb t l u ++ more) = (t, l, u, 0) := by
  unfold Ok at h
  simp only [hb, List.cons_append, List.nil_append, qw]
  rw [if_pos (by omega)]
  simp
  omega
theorem zdr (t l u : Int) (h : Ok t l u) : B8 (hb t l u) := by
  unfold Ok at h
  intro x hx
  simp only [hb, List.mem_cons, List.not_mem_nil, or_false] at hx
  omega
end Go.Proofs.YtlalbohhopmpdaaGreat.LemHeadTop
namespace Go.Proofs.YtlalbohhopmpdaaGreat.LemBytes2Top
open Go.RowKit Go.Proofs.YtlalbohhopmpdaaGreat.PTop Go.YW.PrintWords Go.YW.PrintLast Go.YW.PrintMore Go.Proofs.YtlalbohhopmpdaaGreat.Num Go.Proofs.YtlalbohhopmpdaaGreat.LemBytesTop
def gt (l : List Int) (at_ : Int) : Int × Bool := if 0 ≤ at_ ∧ at_ + 2 ≤ l.length then (rd l at_ * 256 + rd l (at_ + 1), true) else (0, false)
theorem Yq (l : List Int) (hb : B8 l) (i : Int) (h0 : 0 ≤ i) (h : i < l.length) : 0 ≤ rd l i ∧ rd l i < 256 := by
  obtain ⟨j, rfl⟩ := Int.eq_ofNat_of_zero_le h0
  rw [zcY l j (by omega)]
  exact hb _ (List.getElem_mem _)
theorem Kj (l : List Int) (at_ : Int) (hl : l.length ≤ 100000) (ha : -9223372036854775808 ≤ at_ ∧ at_ < 9223372036854775808) (hb : B8 l) : yS.f l at_ = some (gt l at_) := by
  unfold yS.f gt
  by_cases h0 : at_ < 0
  · rw [if_pos h0, if_neg (by omega)]
  · rw [if_neg h0, zA (x := (l.length : Int) - 2) (by omega) (by omega)]
    by_cases h : at_ + 2 ≤ l.length
    · have b0 := Yq l hb at_ (by omega) (by omega)
      have b1 := Yq l hb (at_ + 1) (by omega) (by omega)
      rw [if_neg (by omega), if_pos (by omega), if_pos (by omega), zA (by omega) (by omega), if_pos (by omega), if_pos (by omega), if_pos ⟨by omega, h⟩,
        jI (x := rd l at_) (by omega) (by omega), jI (x := rd l at_ * 256) (by omega) (by omega), jI (x := rd l (at_ + 1)) (by omega) (by omega), jI (by omega) (by omega)]
    · rw [if_pos (by omega), if_neg (by omega)]
theorem YZ (l : List Int) (w : Int) (h0 : 0 ≤ w) (h1 : w < 65536) (hl : l.length ≤ 100000) : xm.f l w = some (l ++ [w / 256, w % 256]) := by
  unfold xm.f
  rw [if_pos (by simp; omega)]
  simp only [Option.bind_some, List.nil_append, Js h0 (by omega : (0 : Int) ≤ 256), Jp h0]
  rw [if_pos (by simp; omega), jI (by omega) (by omega)]
  congr 3
  · omega
  · congr 1; omega
end Go.Proofs.YtlalbohhopmpdaaGreat.LemBytes2Top
namespace Go.Proofs.YtlalbohhopmpdaaGreat.LemHead2Top
open Go.RowKit Go.Proofs.YtlalbohhopmpdaaGreat.PTop Go.YW.PrintWords Go.YW.PrintLast Go.YW.PrintMore Go.Proofs.YtlalbohhopmpdaaGreat.Num Go.Proofs.YtlalbohhopmpdaaGreat.LemBytesTop Go.Proofs.YtlalbohhopmpdaaGreat.LemBytes2Top Go.Proofs.YtlalbohhopmpdaaGreat.LemHeadTop
theorem Zm (l : List Int) (at_ : Int) (hl : l.length ≤ 100000) (h0 : 0 ≤ at_) (h : at_ + 2 ≤ l.length) (hb : B8 l) : zN.f l at_ = some (rd l at_ * 256 + rd l (at_ + 1)) := by
  have b0 := Yq l hb at_ (by omega) (by omega)
  have b1 := Yq l hb (at_ + 1) (by omega) (by omega)
  unfold zN.f
  rw [Kj l at_ hl (by omega) hb, Option.bind_some]
  unfold gt
  rw [if_pos ⟨h0, h⟩]
  dsimp only
  rw [zA (by omega) (by omega)]
theorem Xq (l : List Int) (hl : l.length ≤ 100000) (hb : B8 l) {k : Nat} (hk : 2 ≤ k) : zB.f k l = some (qw l) := by
  obtain ⟨k, rfl⟩ : ∃ m, k = m + 1 := ⟨k - 1, by omega⟩
  unfold zB.f
  by_cases h6 : (l.length : Int) < 6
  · rw [if_pos h6, ZU l (by omega)]
  · rw [if_neg h6]
    obtain ⟨b0, b1, b2, b3, b4, b5, r, rfl⟩ := six l (by omega)
    rw [Zm _ 4 hl (by omega) (by simp; omega) hb, Option.bind_some, Zm _ 2 hl (by omega) (by simp; omega) hb, Option.bind_some]
    have e2 : rd (b0 :: b1 :: b2 :: b3 :: b4 :: b5 :: r) 2 = b2 ∧ rd (b0 :: b1 :: b2 :: b3 :: b4 :: b5 :: r) (2 + 1) = b3 := ⟨rfl, rfl⟩
    have e4 : rd (b0 :: b1 :: b2 :: b3 :: b4 :: b5 :: r) 4 = b4 ∧ rd (b0 :: b1 :: b2 :: b3 :: b4 :: b5 :: r) (4 + 1) = b5 := ⟨rfl, rfl⟩
    rw [e2.1, e2.2, e4.1, e4.2]
    have hj : ∀ x, zB.j0 (k + 1) (b0 :: b1 :: b2 :: b3 :: b4 :: b5 :: r) x true = some (0, 0, 0, 2) := fun x => by rw [zB.j0, if_pos rfl]
    by_cases hp : b2 * 256 + b3 = 0 ∧ 2 ≤ b4 * 256 + b5 ∧ b4 * 256 + b5 ≤ 254
    · rw [if_pos hp.1, if_neg (by omega), decide_eq_false (by omega), zB.j0, if_neg (by decide)]
      match r, hb, hl with
      | [], hb, hl =>
        rw [KQ, if_pos hp, if_pos (by simp)]
      | b6 :: r, hb, hl =>
        have c6 := hb b6 (by simp)
        rw [Ka, if_pos hp, if_neg (by simp; omega), Zm _ 0 hl (by omega) (by simp; omega) hb, Option.bind_some, if_pos (by simp; omega)]
        have e0 : rd (b0 :: b1 :: b2 :: b3 :: b4 :: b5 :: b6 :: r) 0 = b0 ∧ rd (b0 :: b1 :: b2 :: b3 :: b4 :: b5 :: b6 :: r) (0 + 1) = b1 ∧ rd (b0 :: b1 :: b2 :: b3 :: b4 :: b5 :: b6 :: r) 6 = b6 := ⟨rfl, rfl, rfl⟩
        rw [e0.1, e0.2.1, e0.2.2, zA (by omega) (by omega)]
    · have hl2 : qw (b0 :: b1 :: b2 :: b3 :: b4 :: b5 :: r) = (0, 0, 0, 2) := by
        match r with
        | [] => rw [KQ, if_neg hp]
        | b6 :: r => rw [Ka, if_neg hp]
      rw [hl2]
      by_cases h1 : b2 * 256 + b3 = 0
      · rw [if_pos h1]
        by_cases h2 : b4 * 256 + b5 < 2
        · rw [if_pos h2, hj]
        · rw [if_neg h2, decide_eq_true (by omega), hj]
      · rw [if_neg h1, hj]
end Go.Proofs.YtlalbohhopmpdaaGreat.LemHead2Top
