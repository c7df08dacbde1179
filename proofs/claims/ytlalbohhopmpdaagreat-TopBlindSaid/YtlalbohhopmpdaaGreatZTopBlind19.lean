/- Words and walks for TopBlind (made of the session's own texts; each part by itself). -/
import Derived.Deep.DeepCutAuto
import Derived.Deep.DeepMust
import Derived.Deep.RegionLaw
import Derived.Test.YtlalbohhopmpdaaGreatZTopBlind17
import Derived.Test.YtlalbohhopmpdaaGreatZTopBlind18
set_option maxRecDepth 100000
set_option maxHeartbeats 8000000
set_option linter.unusedVariables false
set_option linter.unusedSimpArgs false
namespace Go.Proofs.YtlalbohhopmpdaaGreat.PTop
open Go.RowKit Go.YW.PrintWords Go.YW.PrintLast Go.YW.PrintMore
attribute [local go_sem] yN yO xu xw yP yR xm xq zk zo   -- for this text's walks alone
def yw.f (k : Nat) (l0 : List Int) : Option (Int × Int × List Int × Int × Int) := (zA.f k l0).bind fun bt800 => (if bt800.2.2.2 = 0 then (if (l0.length : Int) < (wrap64 (6 + bt800.2.1)) then (some (0, 0, ([] : List Int), 0, 3)) else (if 7 ≤ (wrap64 (6 + bt800.2.1)) then (if (wrap64 (6 + bt800.2.1)) ≤ (l0.length : Int) then (if ([] : List Int).length + ((l0.take ((wrap64 (6 + bt800.2.1)) : Int).toNat).drop 7).length < 140737488355328 then (some (bt800.1, bt800.2.2.1, (([] : List Int) ++ ((l0.take ((wrap64 (6 + bt800.2.1)) : Int).toNat).drop 7)), wrap64 (6 + bt800.2.1), 0)) else (none)) else (none)) else (none))) else (some (0, 0, ([] : List Int), 0, bt800.2.2.2)))
def yw.T6 : Bool × List (List Nat × List Nat) := (true, [([], []), ([0], [0]), ([], []), ([2], [2]), ([], []), ([], []), ([5], [5]), ([6], [6]), ([4, 7], [4, 7]), ([8], [8]), ([1, 3, 9], [1, 3, 9]), ([], []), ([11], [11]), ([12], [12]), ([10, 9, 0, 1, 2, 3, 4, 5, 6, 7, 8, 9, 10], [10]), ([13, 14, 0, 1, 2, 3, 4, 5, 6, 7, 8, 9, 10, 11, 12, 13, 14], [13]), ([15, 0, 1, 2, 3, 4, 5, 6, 7, 8, 9, 10, 11, 12, 13, 14, 15], [])])
def yw.B6 : List Nat := [0, 1, 0, 4, 0, 0, 32, 96, 240, 496, 1023, 0, 2048, 6144, 2047, 32767, 65535]
theorem yw.tab6 : jA .any (opsOf Tryz.f18 6) = yw.T6 := by kernel_rfl
theorem yw.bits6 : jo yw.T6.2 yw.B6 = true := by kernel_rfl
theorem yw.calls (k : Nat) (A0 : Option Addr) (c0 : Nat) (l0 : List Int) (r1 : Int) (r2 : Int) (r3 : List Int) (r4 : Int) (r5 : Int) (w : World) (hr0 : Kd.C (Kd.int .u8) w A0 l0.length l0) (hc0 : l0.length ≤ c0) (h : yw.f k l0 = some (r1, r2, r3, r4, r5)) :
  Calls Tryz.prog 18 #[.slice A0 l0.length c0] w fun e w' => ∃ v2_ : Value, e = .returned (.tuple #[.agg #[.int .i64 r1, .int .i64 r2, v2_], .int .i64 r4, .int .i64 r5]) ∧ Kd.R (Kd.int .u8) 5 w' w.heap.size (fun _ => True) v2_ r3 ∧ Below w.heap.size w w' := by
 have hu68 := Tryz.underlying68
 have hu110 := Tryz.underlying110
 have HR0 := ze.mk hr0
 have HC0 := ze.mk hc0
 clear hr0 hc0
 have HB := ze.mk (Below.refl w.heap.size w)
 have H : ((zA.f k l0).bind fun bt800 => (if bt800.2.2.2 = 0 then (if (l0.length : Int) < (wrap64 (6 + bt800.2.1)) then (some (0, 0, ([] : List Int), 0, 3)) else (if 7 ≤ (wrap64 (6 + bt800.2.1)) then (if (wrap64 (6 + bt800.2.1)) ≤ (l0.length : Int) then (if ([] : List Int).length + ((l0.take ((wrap64 (6 + bt800.2.1)) : Int).toNat).drop 7).length < 140737488355328 then (some (bt800.1, bt800.2.2.1, (([] : List Int) ++ ((l0.take ((wrap64 (6 + bt800.2.1)) : Int).toNat).drop 7)), wrap64 (6 + bt800.2.1), 0)) else (none)) else (none)) else (none))) else (some (0, 0, ([] : List Int), 0, bt800.2.2.2)))) = some (r1, r2, r3, r4, r5) := h
 clear h
 replace H := Option.bind_eq_some_iff.mp H
 obtain ⟨⟨t800, t801, t802, t803⟩, A20, H⟩ := H
 replace H : (if t803 = 0 then (if (l0.length : Int) < (wrap64 (6 + t801)) then (some (0, 0, ([] : List Int), 0, 3)) else (if 7 ≤ (wrap64 (6 + t801)) then (if (wrap64 (6 + t801)) ≤ (l0.length : Int) then (if ([] : List Int).length + ((l0.take ((wrap64 (6 + t801)) : Int).toNat).drop 7).length < 140737488355328 then (some (t800, t802, (([] : List Int) ++ ((l0.take ((wrap64 (6 + t801)) : Int).toNat).drop 7)), wrap64 (6 + t801), 0)) else (none)) else (none)) else (none))) else (some (0, 0, ([] : List Int), 0, t803))) = some (r1, r2, r3, r4, r5) := H
 have A2 := ze.mk A20
 clear A20
 by_cases c3 : t803 = 0
 ·
  rw [if_pos c3] at H
  have c3b0 : (t803 == 0) = true := beq_iff_eq.mpr c3
  have c3b1 : (t803 != 0) = false := bne_eq_false_iff_eq.mpr c3
  clear c3
  by_cases c4 : (l0.length : Int) < (wrap64 (6 + t801))
  ·
   rw [if_pos c4] at H
   have c4b0 : decide ((l0.length : Int) < (wrap64 (6 + t801))) = true := dT c4
   clear c4
   simp only [Option.some.injEq, Prod.mk.injEq] at H
   obtain ⟨rfl, rfl, rfl, rfl, rfl⟩ := H
   go_enter Tryz.func18, Tryz.ntmps18
   go_wp2_with (first | ((with_reducible refine zN (N := 2) rfl ?_); refine yf ?hg (N := 2) ?hd (cs := #[.int .i64 0, .int .i64 0, .slice none 0 0]) (t := 68) ?hr ?_; (case hd => rfl); (case hg => rfl); (case hr => first | (go_simp; done) | (go_simp; rfl)); intro gb799 hg w5 hbox hb; have BK799 := ze.mk (hbox); have GW799 := ze.mk ((by rw [hg]; exact (zt (HB.out)) : w.heap.size ≤ gb799)); have GE799 := ze.mk ((by rw [hg]; exact (zt (HB.out)) : w.heap.size ≤ gb799)); replace HB := ze.mk (zG (HB.out) hb); clear hb hbox hg) | ((with_reducible refine zO (f := 43) rfl ?_); refine yL (some 9) rfl rfl Tryz.func43 (by kernel_rfl) rfl #[.slice A0 l0.length c0] rfl (by (try simp only [List.map_toArray, List.map_cons, List.map_nil]); first | done | rfl | (simp only [List.length_drop, List.length_take]; rfl)) ?_; (with_reducible refine (zA.calls k _ _ l0 t800 t801 t802 t803 _ ?side1 ?side2 A2.out).mono ?_); (case side1 => repeat (first | exact (Kd.zx HR0.out HB.out) | (with_reducible refine Kd.yC ?_ _) | (with_reducible refine Kd.yF ?_ _) | (with_reducible refine Kd.xe ?_))); (case side2 => exact HC0.out); rintro e w6 ⟨rfl, hb⟩; refine ⟨_, rfl, ?_⟩; replace BK799 := ze.mk (zb BK799.out hb); replace HB := ze.mk (zG (HB.out) hb); (try clear hb); (try clear hi)) | ((with_reducible refine zN (N := 5) rfl ?_); refine yf ?hg (N := 5) ?hd (cs := #[.int .i64 0, .int .i64 0, .int .i64 0]) (t := 110) ?hr ?_; (case hd => rfl); (case hg => rfl); (case hr => first | (go_simp; done) | (go_simp; rfl)); intro gb804 hg w7 hbox hb; have BK804 := ze.mk (hbox); have GW804 := ze.mk ((by rw [hg]; exact (zt (HB.out)) : w.heap.size ≤ gb804)); have GE804 := ze.mk ((by rw [hg]; exact (zt (HB.out)) : w.heap.size ≤ gb804)); replace HB := ze.mk (zG (HB.out) hb); have NB799_804 := ze.mk ((by rw [hg]; exact Nat.ne_of_lt (zF (g := gb799) (o := .cells #[.int .i64 0, .int .i64 0, .slice none 0 0] 68 (0, 0)) (BK799.out)) : gb799 ≠ gb804)); have NB804_799 := ze.mk ((by rw [hg]; exact Nat.ne_of_gt (zF (g := gb799) (o := .cells #[.int .i64 0, .int .i64 0, .slice none 0 0] 68 (0, 0)) (BK799.out)) : gb804 ≠ gb799)); replace BK799 := ze.mk (zb BK799.out hb); clear hb hbox hg; have hnb8 := NB804_799.out; have hnc8 := NB799_804.out; obtain ⟨hcz9_0, hcz9_1, hcz9_2⟩ := zS BK804.out; obtain ⟨hfz9_0, hfz9_1, hfz9_2⟩ := xD BK804.out; obtain ⟨hcz10_0, hcz10_1, hcz10_2⟩ := zS BK799.out; obtain ⟨hfz10_0, hfz10_1, hfz10_2⟩ := xD BK799.out))
   refine bodyPost_ret (qW rfl _ _ gb799 68 #[.int .i64 0, .int .i64 0, .slice none 0 0] (0, 0) _ rfl (by (with_reducible repeat (first | refine zm ?_ _ | refine zn ?_ | refine zg ?_ _)); refine zQ (cs := #[.int .i64 0, .int .i64 0, .slice none 0 0]) ?_ 2 _ rfl; (with_reducible repeat (first | refine zm ?_ _ | refine zn ?_ | refine zg ?_ _)); refine zQ (cs := #[.int .i64 0, .int .i64 0, .slice none 0 0]) ?_ 1 _ rfl; (with_reducible repeat (first | refine zm ?_ _ | refine zn ?_ | refine zg ?_ _)); refine zQ (cs := #[.int .i64 0, .int .i64 0, .slice none 0 0]) ?_ 0 _ rfl; (with_reducible repeat (first | refine zm ?_ _ | refine zn ?_ | refine zg ?_ _)); refine yI ?_ NB799_804.out _; (with_reducible repeat (first | refine zm ?_ _ | refine zn ?_ | refine zg ?_ _)); refine yI ?_ NB799_804.out _; (with_reducible repeat (first | refine zm ?_ _ | refine zn ?_ | refine zg ?_ _)); refine yI ?_ NB799_804.out _; (with_reducible repeat (first | refine zm ?_ _ | refine zn ?_ | refine zg ?_ _)); exact BK799.out) Tryz.underlying68 rfl (by kernel_rfl)) rfl ?_
   exact ⟨_, by first | rfl | (simp [zC, zD] <;> rfl) | (simp [*, zC, zD] <;> rfl), by first | exact Kd.ql _ _ _ _ _ | exact Kd.N_nil _ _ _ _ _ | exact Kd.V_nil _ _ _ _ _ | exact Kd.Q_nil _ _ _ _ _ | exact Kd.S_nil _ _ _ _ _, by repeat (first | (with_reducible first | exact HB.out | apply zy | apply zq | apply zI | refine zM ?_ GE799.out | refine zM ?_ GE804.out) | exact HB.out)⟩
  ·
   rw [if_neg c4] at H
   have c4b0 : decide ((l0.length : Int) < (wrap64 (6 + t801))) = false := dF c4
   clear c4
   by_cases c11 : 7 ≤ (wrap64 (6 + t801))
   ·
    rw [if_pos c11] at H
    have c11b0 := eq_true c11
    have c11b1 : decide (7 ≤ (wrap64 (6 + t801))) = true := dT c11
    by_cases c12 : (wrap64 (6 + t801)) ≤ (l0.length : Int)
    ·
     rw [if_pos c12] at H
     have c12b0 := eq_true c12
     have c12b1 : decide ((wrap64 (6 + t801)) ≤ (l0.length : Int)) = true := dT c12
     by_cases c13 : ([] : List Int).length + ((l0.take ((wrap64 (6 + t801)) : Int).toNat).drop 7).length < 140737488355328
     ·
      rw [if_pos c13] at H
      have LMc13 := ze.mk c13
      clear c13
      obtain ⟨y806, hy806⟩ : ∃ y_ : List Int, y_ = (([] : List Int) ++ ((l0.take ((wrap64 (6 + t801)) : Int).toNat).drop 7)) := ⟨_, rfl⟩
      replace H : (some (t800, t802, y806, wrap64 (6 + t801), 0)) = some (r1, r2, r3, r4, r5) := by first | (rw [hy806]; with_reducible exact H) | (have H2_ := (Option.bind_some _ _).symm.trans H; rw [hy806]; with_reducible exact H2_) | (have H2_ := (Option.bind_some _ _).symm.trans H; with_reducible exact H2_) | with_reducible exact H | (rw [hy806]; exact H) | exact H
      have Ny806 := ze.mk hy806
      clear hy806
      simp only [Option.some.injEq, Prod.mk.injEq] at H
      obtain ⟨rfl, rfl, rfl, rfl, rfl⟩ := H
      go_enter Tryz.func18, Tryz.ntmps18
      try go_wp2_with (first | ((with_reducible refine zN (N := 2) rfl ?_); refine yf ?hg (N := 2) ?hd (cs := #[.int .i64 0, .int .i64 0, .slice none 0 0]) (t := 68) ?hr ?_; (case hd => rfl); (case hg => rfl); (case hr => first | (go_simp; done) | (go_simp; rfl)); intro gb799 hg w14 hbox hb; have BK799 := ze.mk (hbox); have GW799 := ze.mk ((by rw [hg]; exact (zt (HB.out)) : w.heap.size ≤ gb799)); have GE799 := ze.mk ((by rw [hg]; exact (zt (HB.out)) : w.heap.size ≤ gb799)); replace HB := ze.mk (zG (HB.out) hb); clear hb hbox hg) | ((with_reducible refine zO (f := 43) rfl ?_); refine yL (some 9) rfl rfl Tryz.func43 (by kernel_rfl) rfl #[.slice A0 l0.length c0] rfl (by (try simp only [List.map_toArray, List.map_cons, List.map_nil]); first | done | rfl | (simp only [List.length_drop, List.length_take]; rfl)) ?_; (with_reducible refine (zA.calls k _ _ l0 t800 t801 t802 t803 _ ?side1 ?side2 A2.out).mono ?_); (case side1 => repeat (first | exact (Kd.zx HR0.out HB.out) | (with_reducible refine Kd.yC ?_ _) | (with_reducible refine Kd.yF ?_ _) | (with_reducible refine Kd.xe ?_))); (case side2 => exact HC0.out); rintro e w15 ⟨rfl, hb⟩; refine ⟨_, rfl, ?_⟩; replace BK799 := ze.mk (zb BK799.out hb); replace HB := ze.mk (zG (HB.out) hb); (try clear hb); (try clear hi)) | ((with_reducible refine zN (N := 5) rfl ?_); refine yf ?hg (N := 5) ?hd (cs := #[.int .i64 0, .int .i64 0, .int .i64 0]) (t := 110) ?hr ?_; (case hd => rfl); (case hg => rfl); (case hr => first | (go_simp; done) | (go_simp; rfl)); intro gb804 hg w16 hbox hb; have BK804 := ze.mk (hbox); have GW804 := ze.mk ((by rw [hg]; exact (zt (HB.out)) : w.heap.size ≤ gb804)); have GE804 := ze.mk ((by rw [hg]; exact (zt (HB.out)) : w.heap.size ≤ gb804)); replace HB := ze.mk (zG (HB.out) hb); have NB799_804 := ze.mk ((by rw [hg]; exact Nat.ne_of_lt (zF (g := gb799) (o := .cells #[.int .i64 0, .int .i64 0, .slice none 0 0] 68 (0, 0)) (BK799.out)) : gb799 ≠ gb804)); have NB804_799 := ze.mk ((by rw [hg]; exact Nat.ne_of_gt (zF (g := gb799) (o := .cells #[.int .i64 0, .int .i64 0, .slice none 0 0] 68 (0, 0)) (BK799.out)) : gb804 ≠ gb799)); replace BK799 := ze.mk (zb BK799.out hb); clear hb hbox hg; have hnb17 := NB804_799.out; have hnc17 := NB799_804.out; obtain ⟨hcz18_0, hcz18_1, hcz18_2⟩ := zS BK804.out; obtain ⟨hfz18_0, hfz18_1, hfz18_2⟩ := xD BK804.out))
      have n0_ : ze ((((w16.setCell ⟨gb804, 0, none⟩ (.int .i64 t800)).setCell ⟨gb804, 1, none⟩ (.int .i64 t801)).setCell ⟨gb804, 2, none⟩ (.int .i64 t802)).heap[gb799]? = some (.cells #[.int .i64 0, .int .i64 0, .slice none 0 0] 68 (0, 0))) := ⟨by (with_reducible repeat (first | refine zm ?_ _ | refine zn ?_ | refine zg ?_ _)); refine yI ?_ NB799_804.out _; (with_reducible repeat (first | refine zm ?_ _ | refine zn ?_ | refine zg ?_ _)); refine yI ?_ NB799_804.out _; (with_reducible repeat (first | refine zm ?_ _ | refine zn ?_ | refine zg ?_ _)); refine yI ?_ NB799_804.out _; (with_reducible repeat (first | refine zm ?_ _ | refine zn ?_ | refine zg ?_ _)); exact BK799.out⟩
      have n1_ : ze ((((w16.setCell ⟨gb804, 0, none⟩ (.int .i64 t800)).setCell ⟨gb804, 1, none⟩ (.int .i64 t801)).setCell ⟨gb804, 2, none⟩ (.int .i64 t802)).heap[gb804]? = some (.cells #[.int .i64 t800, .int .i64 t801, .int .i64 t802] 110 (0, 0))) := ⟨by (with_reducible repeat (first | refine zm ?_ _ | refine zn ?_ | refine zg ?_ _)); refine zQ (cs := #[.int .i64 t800, .int .i64 t801, .int .i64 0]) ?_ 2 _ rfl; (with_reducible repeat (first | refine zm ?_ _ | refine zn ?_ | refine zg ?_ _)); refine zQ (cs := #[.int .i64 t800, .int .i64 0, .int .i64 0]) ?_ 1 _ rfl; (with_reducible repeat (first | refine zm ?_ _ | refine zn ?_ | refine zg ?_ _)); refine zQ (cs := #[.int .i64 0, .int .i64 0, .int .i64 0]) ?_ 0 _ rfl; (with_reducible repeat (first | refine zm ?_ _ | refine zn ?_ | refine zg ?_ _)); exact BK804.out⟩
      have n2_ : ze (Below w.heap.size w (((w16.setCell ⟨gb804, 0, none⟩ (.int .i64 t800)).setCell ⟨gb804, 1, none⟩ (.int .i64 t801)).setCell ⟨gb804, 2, none⟩ (.int .i64 t802))) := ⟨by repeat (first | (with_reducible first | exact HB.out | apply zy | apply zq | apply zI | refine zM ?_ GE799.out | refine zM ?_ GE804.out) | exact HB.out)⟩
      (try clear BK799)
      (try clear BK804)
      (try clear HB)
      first | (rw [qR (((w16.setCell ⟨gb804, 0, none⟩ (.int .i64 t800)).setCell ⟨gb804, 1, none⟩ (.int .i64 t801)).setCell ⟨gb804, 2, none⟩ (.int .i64 t802))]; generalize hq_ : World.drewN (((w16.setCell ⟨gb804, 0, none⟩ (.int .i64 t800)).setCell ⟨gb804, 1, none⟩ (.int .i64 t801)).setCell ⟨gb804, 2, none⟩ (.int .i64 t802)) _ = w19; have m0_ : ze (w19.heap[gb799]? = some (.cells #[.int .i64 0, .int .i64 0, .slice none 0 0] 68 (0, 0))) := ⟨by rw [← hq_]; first | exact Kd.qc n0_.out _ | exact Kd.Q_drewN n0_.out _ | exact zm n0_.out _ | exact zq n0_.out _ | exact Kd.S_drewN n0_.out _ | exact n0_.out⟩; have m1_ : ze (w19.heap[gb804]? = some (.cells #[.int .i64 t800, .int .i64 t801, .int .i64 t802] 110 (0, 0))) := ⟨by rw [← hq_]; first | exact Kd.qc n1_.out _ | exact Kd.Q_drewN n1_.out _ | exact zm n1_.out _ | exact zq n1_.out _ | exact Kd.S_drewN n1_.out _ | exact n1_.out⟩; have m2_ : ze (Below w.heap.size w w19) := ⟨by rw [← hq_]; first | exact Kd.qc n2_.out _ | exact Kd.Q_drewN n2_.out _ | exact zm n2_.out _ | exact zq n2_.out _ | exact Kd.S_drewN n2_.out _ | exact n2_.out⟩; clear hq_ n0_ n1_ n2_; have n0_ := m0_; have n1_ := m1_; have n2_ := m2_; clear m0_ m1_ m2_) | (generalize (((w16.setCell ⟨gb804, 0, none⟩ (.int .i64 t800)).setCell ⟨gb804, 1, none⟩ (.int .i64 t801)).setCell ⟨gb804, 2, none⟩ (.int .i64 t802)) = w19 at n0_ n1_ n2_ ⊢)
      have BK799 := n0_
      have BK804 := n1_
      have HB := n2_
      clear n0_ n1_ n2_
      have n0_ := ze.mk (zn BK799.out)
      have n1_ := ze.mk (zn BK804.out)
      have n2_ := ze.mk (zI HB.out)
      clear BK799
      clear BK804
      clear HB
      have BK799 := n0_
      have BK804 := n1_
      have HB := n2_
      clear n0_ n1_ n2_
      obtain ⟨i021, hi021, _, hsz21, _⟩ := info_parts info5
      obtain ⟨A21, hcut21, hA21, hC21⟩ := ZN (P := Tryz.prog) (Value.int .u8) 0 59 5 .i64 .i64 Tryz.underlying59 hi021 hsz21 A0 c0 l0 7 (wrap64 (6 + t801)) (by omega) (by first | omega | exact of_decide_eq_true (by first | (with_reducible assumption) | assumption)) (of_decide_eq_true (by first | (with_reducible assumption) | assumption)) HC0.out
      have HR805 := ze.mk (Kd.C_of_reads (h1 := fun _ => rfl) (hA21 _ (Kd.kU HR0.out)))
      have HC805 := ze.mk hC21
      clear hA21 hC21 hi021 hsz21
      refine vv (n := 17) (S := fun w' => w'.cell? ⟨gb804, 0, none⟩ = some (.int .i64 t800) ∧ w'.cell? ⟨gb804, 1, none⟩ = some (.int .i64 t801) ∧ w'.cell? ⟨gb804, 2, none⟩ = some (.int .i64 t802)) (ds := []) #[false,false,false,false,false,false,false,false,false,false,false,false,false,false,false,false,false] (by kernel_rfl) rfl rfl ⟨(za BK804.out 0).trans rfl, (za BK804.out 1).trans rfl, (za BK804.out 2).trans rfl⟩ (fun hHeld => ?_); refine jk yw.tab6 yw.bits6 (fun HT_ HW_ => ?_)
      generalize w19.drew = w20 at BK799 BK804 HB HR805 hHeld ⊢
      refine jr (i := 0) (N := some 23) (v := ?_) (a' := ?_) #[true,false,false,false,false,false,false,false,false,false,false,false,false,false,false,false,false] rfl rfl (yo HT_.out (by kernel_rfl)) (fun _ _ _ h => h) (Or.inl ⟨by rfl, ?_⟩) ?_ ?_
      rotate_left
      ·
       intro w'
       go_simp
       with_reducible rfl
      rotate_left
      ·
       simp only [Act.put, List.setIfInBounds_toArray, List.set_cons_zero, List.set_cons_succ, xy, xV]
       rfl
      refine jr (i := 2) (N := some 25) (v := ?_) (a' := ?_) #[true,false,true,false,false,false,false,false,false,false,false,false,false,false,false,false,false] rfl rfl (yo HT_.out (by kernel_rfl)) (fun _ _ _ h => h) (Or.inl ⟨by rfl, ?_⟩) ?_ ?_
      rotate_left
      ·
       intro w'
       go_simp
       with_reducible rfl
      rotate_left
      ·
       simp only [Act.put, List.setIfInBounds_toArray, List.set_cons_zero, List.set_cons_succ, xy, xV]
       rfl
      refine jr (i := 4) (N := some 27) (v := ?_) (a' := ?_) #[true,false,true,false,true,false,false,false,false,false,false,false,false,false,false,false,false] rfl rfl (yo HT_.out (by kernel_rfl)) (fun _ _ _ h => h) (Or.inl ⟨by rfl, ?_⟩) ?_ ?_
      rotate_left
      ·
       intro w'
       go_simp
       with_reducible rfl
      rotate_left
      ·
       simp only [Act.put, List.setIfInBounds_toArray, List.set_cons_zero, List.set_cons_succ, xy, xV]
       rfl
      refine jr (i := 5) (N := some 28) (v := ?_) (a' := ?_) #[true,false,true,false,true,true,false,false,false,false,false,false,false,false,false,false,false] rfl rfl (yo HT_.out (by kernel_rfl)) (fun _ _ _ h => h) (Or.inl ⟨by rfl, ?_⟩) ?_ ?_
      rotate_left
      ·
       intro w'
       go_simp
       with_reducible rfl
      rotate_left
      ·
       simp only [Act.put, List.setIfInBounds_toArray, List.set_cons_zero, List.set_cons_succ, xy, xV]
       rfl
      refine jr (i := 11) (N := some 34) (v := ?_) (a' := ?_) #[true,false,true,false,true,true,false,false,false,false,false,true,false,false,false,false,false] rfl rfl (yo HT_.out (by kernel_rfl)) (fun _ _ _ h => h) (Or.inl ⟨by rfl, ?_⟩) ?_ ?_
      rotate_left
      ·
       intro w'
       go_simp
       with_reducible rfl
      rotate_left
      ·
       simp only [Act.put, List.setIfInBounds_toArray, List.set_cons_zero, List.set_cons_succ, xy, xV]
       rfl
      refine take_ (i := 1) (N := some 24) (v := ?_) (a' := ?_) #[true,true,true,false,true,true,false,false,false,false,false,true,false,false,false,false,false] rfl rfl (qd HT_.out HW_.out (by kernel_rfl)) (fun _ _ _ h => h) (Or.inl ⟨by rfl, ?_⟩) hHeld ?_ ?_
      rotate_left
      ·
       rintro w' ⟨s0, s1, s2⟩
       go_simp
       with_reducible rfl
      rotate_left
      ·
       simp only [Act.put, List.setIfInBounds_toArray, List.set_cons_zero, List.set_cons_succ, xy, xV]
       rfl
      refine take_ (i := 3) (N := some 26) (v := ?_) (a' := ?_) #[true,true,true,true,true,true,false,false,false,false,false,true,false,false,false,false,false] rfl rfl (qd HT_.out HW_.out (by kernel_rfl)) (fun _ _ _ h => h) (Or.inl ⟨by rfl, ?_⟩) hHeld ?_ ?_
      rotate_left
      ·
       rintro w' ⟨s0, s1, s2⟩
       go_simp
       with_reducible rfl
      rotate_left
      ·
       simp only [Act.put, List.setIfInBounds_toArray, List.set_cons_zero, List.set_cons_succ, xy, xV]
       rfl
      refine take_ (i := 6) (N := some 29) (v := ?_) (a' := ?_) #[true,true,true,true,true,true,true,false,false,false,false,true,false,false,false,false,false] rfl rfl (qd HT_.out HW_.out (by kernel_rfl)) (fun _ _ _ h => h) (Or.inl ⟨by rfl, ?_⟩) hHeld ?_ ?_
      rotate_left
      ·
       rintro w' ⟨s0, s1, s2⟩
       go_simp
       with_reducible rfl
      rotate_left
      ·
       simp only [Act.put, List.setIfInBounds_toArray, List.set_cons_zero, List.set_cons_succ, xy, xV]
       rfl
      refine jr (i := 7) (N := some 30) (v := ?_) (a' := ?_) #[true,true,true,true,true,true,true,true,false,false,false,true,false,false,false,false,false] rfl rfl (yo HT_.out (by kernel_rfl)) (fun _ _ _ h => h) (Or.inl ⟨by rfl, ?_⟩) ?_ ?_
      rotate_left
      ·
       intro w'
       go_simp
       with_reducible rfl
      rotate_left
      ·
       simp only [Act.put, List.setIfInBounds_toArray, List.set_cons_zero, List.set_cons_succ, xy, xV]
       rfl
      refine jr (i := 8) (N := some 31) (v := ?_) (a' := ?_) #[true,true,true,true,true,true,true,true,true,false,false,true,false,false,false,false,false] rfl rfl (yo HT_.out (by kernel_rfl)) (fun _ _ _ h => h) (Or.inl ⟨by rfl, ?_⟩) ?_ ?_
      rotate_left
      ·
       intro w'
       go_simp
       with_reducible rfl
      rotate_left
      ·
       simp only [Act.put, List.setIfInBounds_toArray, List.set_cons_zero, List.set_cons_succ, xy, xV]
       rfl
      refine take_ (i := 12) (N := some 35) (v := ?_) (a' := ?_) #[true,true,true,true,true,true,true,true,true,false,false,true,true,false,false,false,false] rfl rfl (qd HT_.out HW_.out (by kernel_rfl)) (fun _ _ _ h => h) (Or.inl ⟨by rfl, ?_⟩) hHeld ?_ ?_
      rotate_left
      ·
       rintro w' ⟨s0, s1, s2⟩
       go_simp
       with_reducible rfl
      rotate_left
      ·
       simp only [Act.put, List.setIfInBounds_toArray, List.set_cons_zero, List.set_cons_succ, xy, xV]
       rfl
      refine jr (i := 13) (N := some 36) (v := ?_) (a' := ?_) #[true,true,true,true,true,true,true,true,true,false,false,true,true,true,false,false,false] rfl rfl (yo HT_.out (by kernel_rfl)) (fun _ _ _ h => h) (Or.inl ⟨by rfl, ?_⟩) ?_ ?_
      rotate_left
      ·
       intro w'
       go_simp
       with_reducible rfl
      rotate_left
      ·
       simp only [Act.put, List.setIfInBounds_toArray, List.set_cons_zero, List.set_cons_succ, xy, xV]
       rfl
      refine zdw (i := 9) (N := some 32) #[true,true,true,true,true,true,true,true,true,true,false,true,true,true,false,false,false] rfl rfl (jg HT_.out (by kernel_rfl)) (by decide) (fun K hK => ?_)
      refine Kd.qA (Kd.int .u8) (w0 := w) w.heap.size (by rfl) (.const (.slice none 0 0)) (.tmp 31) 59 5 (.int .u8 0) 1 rfl Tryz.underlying59 info5 rfl (by decide) (by omega) (.slice none 0 0) ([] : List Int) ((l0.take ((wrap64 (6 + t801)) : Int).toNat).drop 7) _ _ _ (fun _ => True) (fun _ => False) rfl rfl ?aO ?aR (fun _ _ h => h) (fun _ h => h.elim) ?aF ?aB ?aS ?aL ?_
      (case aR => first | (rw [← show ((l0.take ((wrap64 (6 + t801)) : Int).toNat).drop 7).length = ((wrap64 (6 + t801)).toNat - 7) from (by rw [List.length_drop, List.length_take]; have h_ : ((wrap64 (6 + t801)) : Int) ≤ (l0.length : Int) := of_decide_eq_true (by first | (with_reducible assumption) | assumption); omega)]; repeat (first | exact (Kd.zx HR805.out HB.out) | (with_reducible refine Kd.yC ?_ _) | (with_reducible refine Kd.yF ?_ _) | (with_reducible refine Kd.xe ?_))) | (repeat (first | exact (Kd.zx HR805.out HB.out) | (with_reducible refine Kd.yC ?_ _) | (with_reducible refine Kd.yF ?_ _) | (with_reducible refine Kd.xe ?_))))
      (case aB => exact (HB.out))
      (case aF => exact (fun _ _ => trivial))
      (case aO => exact ((Kd.ql _ _ _ _ (fun _ => True))))
      (case aS => exact (zt (HB.out)))
      (case aL => have := LMc13.out; have hlx_ := (show ((l0.take ((wrap64 (6 + t801)) : Int).toNat).drop 7).length = ((wrap64 (6 + t801)).toNat - 7) from (by rw [List.length_drop, List.length_take]; have h_ : ((wrap64 (6 + t801)) : Int) ≤ (l0.length : Int) := of_decide_eq_true (by first | (with_reducible assumption) | assumption); omega)); omega)
      intro v807 w22 ho hb hg hat
      rw [← Ny806.out] at ho
      have n0_ := ze.mk (yG (g := gb799) (o := .cells #[.int .i64 0, .int .i64 0, .slice none 0 0] 68 (0, 0)) (BK799.out) hg (by simp [Value.ownBlock]))
      have n1_ := ze.mk (yG (g := gb804) (o := .cells #[.int .i64 t800, .int .i64 t801, .int .i64 t802] 110 (0, 0)) (BK804.out) hg (by simp [Value.ownBlock]))
      have n2_ := ze.mk (hb)
      have n3_ := ze.mk (ho)
      clear BK799
      clear BK804
      clear HB
      have BK799 := n0_
      have BK804 := n1_
      have HB := n2_
      have HO808 := n3_
      clear n0_ n1_ n2_ n3_
      clear ho hb hg hat
      obtain ⟨Ao23, co23, eo23⟩ := Kd.yc HO808.out
      (first | subst eo23 | (injection eo23 with f1_ f2_ f3_; have f4_ := f1_.symm; have f5_ := f3_.symm; clear f1_ f2_ f3_; subst f4_; subst f5_))
      refine hK.out _ _ ⟨(za BK804.out 0).trans rfl, (za BK804.out 1).trans rfl, (za BK804.out 2).trans rfl⟩ (fun hHeld => ?_)
      clear hK K
      refine kH (a' := ?_) ?_ ?_
      rotate_left
      ·
       show Act.put _ (some 32) _ = _
       simp only [Act.put, List.setIfInBounds_toArray, List.set_cons_zero, List.set_cons_succ, xy, xV]
       rfl
      refine jr (i := 10) (N := some 33) (v := ?_) (a' := ?_) #[true,true,true,true,true,true,true,true,true,true,true,true,true,true,false,false,false] rfl rfl (yo HT_.out (by kernel_rfl)) (fun _ _ _ h => h) (Or.inl ⟨by rfl, ?_⟩) ?_ ?_
      rotate_left
      ·
       intro w'
       go_simp
       with_reducible rfl
      rotate_left
      ·
       simp only [Act.put, List.setIfInBounds_toArray, List.set_cons_zero, List.set_cons_succ, xy, xV]
       rfl
      refine zdw (i := 14) (N := none) #[true,true,true,true,true,true,true,true,true,true,true,true,true,true,true,false,false] rfl rfl (jg HT_.out (by kernel_rfl)) (by decide) (fun K hK => ?_)
      have hs24 : w22.cell? ⟨gb799, 0, none⟩ = some (.int .i64 0) := (za BK799.out 0).trans rfl
      have hfs24 := zh BK799.out 0
      have hns24_1 := NB804_799.out
      have hms24_1 := NB799_804.out
      have hs25 : w22.cell? ⟨gb799, 1, none⟩ = some (.int .i64 0) := (za BK799.out 1).trans rfl
      have hfs25 := zh BK799.out 1
      have hns25_1 := NB804_799.out
      have hms25_1 := NB799_804.out
      have hs26 : w22.cell? ⟨gb799, 2, none⟩ = some (.slice none 0 0) := (za BK799.out 2).trans rfl
      have hfs26 := zh BK799.out 2
      have hns26_1 := NB804_799.out
      have hms26_1 := NB799_804.out
      refine jY (w1 := ?_) (by rfl) rfl ?_ ?_
      rotate_left
      ·
       go_simp
       rfl
      refine hK.out _ _ ⟨((cell_far (p := ⟨gb799, _, none⟩) NB804_799.out _).trans (((cell_far (p := ⟨gb799, _, none⟩) NB804_799.out _).trans (((cell_far (p := ⟨gb799, _, none⟩) NB804_799.out _).trans (hHeld.1)))))), ((cell_far (p := ⟨gb799, _, none⟩) NB804_799.out _).trans (((cell_far (p := ⟨gb799, _, none⟩) NB804_799.out _).trans (((cell_far (p := ⟨gb799, _, none⟩) NB804_799.out _).trans (hHeld.2.1)))))), ((cell_far (p := ⟨gb799, _, none⟩) NB804_799.out _).trans (((cell_far (p := ⟨gb799, _, none⟩) NB804_799.out _).trans (((cell_far (p := ⟨gb799, _, none⟩) NB804_799.out _).trans (hHeld.2.2))))))⟩ (fun hHeld => ?_)
      clear hK K
      refine jr (i := 15) (N := some 3) (v := ?_) (a' := ?_) #[true,true,true,true,true,true,true,true,true,true,true,true,true,true,true,true,false] rfl rfl (yo HT_.out (by kernel_rfl)) (fun _ _ _ h => h) (Or.inl ⟨by rfl, ?_⟩) ?_ ?_
      rotate_left
      ·
       intro w'
       go_simp
       with_reducible rfl
      rotate_left
      ·
       simp only [Act.put, List.setIfInBounds_toArray, List.set_cons_zero, List.set_cons_succ, xy, xV]
       rfl
      refine jr (i := 16) (N := some 4) (v := ?_) (a' := ?_) #[true,true,true,true,true,true,true,true,true,true,true,true,true,true,true,true,true] rfl rfl (yo HT_.out (by kernel_rfl)) (fun _ _ _ h => h) (Or.inl ⟨by rfl, ?_⟩) ?_ ?_
      rotate_left
      ·
       intro w'
       go_simp
       with_reducible rfl
      rotate_left
      ·
       simp only [Act.put, List.setIfInBounds_toArray, List.set_cons_zero, List.set_cons_succ, xy, xV]
       rfl
      refine xJ (vk HT_.out (by kernel_rfl)) ?_
      try go_wp2
      refine bodyPost_ret (qW rfl _ _ gb799 68 #[.int .i64 t800, .int .i64 t802, .slice Ao23 y806.length co23] (0, 0) _ rfl (by (with_reducible repeat (first | refine zm ?_ _ | refine zn ?_ | refine zg ?_ _)); refine zQ (cs := #[.int .i64 t800, .int .i64 t802, .slice none 0 0]) ?_ 2 _ rfl; (with_reducible repeat (first | refine zm ?_ _ | refine zn ?_ | refine zg ?_ _)); refine zQ (cs := #[.int .i64 t800, .int .i64 0, .slice none 0 0]) ?_ 1 _ rfl; (with_reducible repeat (first | refine zm ?_ _ | refine zn ?_ | refine zg ?_ _)); refine zQ (cs := #[.int .i64 0, .int .i64 0, .slice none 0 0]) ?_ 0 _ rfl; (with_reducible repeat (first | refine zm ?_ _ | refine zn ?_ | refine zg ?_ _)); exact BK799.out) Tryz.underlying68 rfl (by kernel_rfl)) rfl ?_
      exact ⟨_, by first | rfl | (simp [zC, zD] <;> rfl) | (simp [*, zC, zD] <;> rfl), Kd.yX (Kd.rfR (Kd.rfR (Kd.rfR (Kd.Qp HO808.out BK799.out (by decide))))) (fun _ hk => trivial), by repeat (first | (with_reducible first | exact HB.out | apply zy | apply zq | apply zI | refine zM ?_ GE799.out | refine zM ?_ GE804.out) | exact HB.out)⟩
     ·
      rw [if_neg c13] at H
      exact absurd H (by simp)
    ·
     rw [if_neg c12] at H
     exact absurd H (by simp)
   ·
    rw [if_neg c11] at H
    exact absurd H (by simp)
 ·
  rw [if_neg c3] at H
  have c3b0 : (t803 == 0) = false := beq_eq_false_iff_ne.mpr c3
  have c3b1 : (t803 != 0) = true := bne_iff_ne.mpr c3
  simp only [Option.some.injEq, Prod.mk.injEq] at H
  obtain ⟨rfl, rfl, rfl, rfl, rfl⟩ := H
  go_enter Tryz.func18, Tryz.ntmps18
  go_wp2_with (first | ((with_reducible refine zN (N := 2) rfl ?_); refine yf ?hg (N := 2) ?hd (cs := #[.int .i64 0, .int .i64 0, .slice none 0 0]) (t := 68) ?hr ?_; (case hd => rfl); (case hg => rfl); (case hr => first | (go_simp; done) | (go_simp; rfl)); intro gb799 hg w27 hbox hb; have BK799 := ze.mk (hbox); have GW799 := ze.mk ((by rw [hg]; exact (zt (HB.out)) : w.heap.size ≤ gb799)); have GE799 := ze.mk ((by rw [hg]; exact (zt (HB.out)) : w.heap.size ≤ gb799)); replace HB := ze.mk (zG (HB.out) hb); clear hb hbox hg) | ((with_reducible refine zO (f := 43) rfl ?_); refine yL (some 9) rfl rfl Tryz.func43 (by kernel_rfl) rfl #[.slice A0 l0.length c0] rfl (by (try simp only [List.map_toArray, List.map_cons, List.map_nil]); first | done | rfl | (simp only [List.length_drop, List.length_take]; rfl)) ?_; (with_reducible refine (zA.calls k _ _ l0 t800 t801 t802 t803 _ ?side1 ?side2 A2.out).mono ?_); (case side1 => repeat (first | exact (Kd.zx HR0.out HB.out) | (with_reducible refine Kd.yC ?_ _) | (with_reducible refine Kd.yF ?_ _) | (with_reducible refine Kd.xe ?_))); (case side2 => exact HC0.out); rintro e w28 ⟨rfl, hb⟩; refine ⟨_, rfl, ?_⟩; replace BK799 := ze.mk (zb BK799.out hb); replace HB := ze.mk (zG (HB.out) hb); (try clear hb); (try clear hi)) | ((with_reducible refine zN (N := 5) rfl ?_); refine yf ?hg (N := 5) ?hd (cs := #[.int .i64 0, .int .i64 0, .int .i64 0]) (t := 110) ?hr ?_; (case hd => rfl); (case hg => rfl); (case hr => first | (go_simp; done) | (go_simp; rfl)); intro gb804 hg w29 hbox hb; have BK804 := ze.mk (hbox); have GW804 := ze.mk ((by rw [hg]; exact (zt (HB.out)) : w.heap.size ≤ gb804)); have GE804 := ze.mk ((by rw [hg]; exact (zt (HB.out)) : w.heap.size ≤ gb804)); replace HB := ze.mk (zG (HB.out) hb); have NB799_804 := ze.mk ((by rw [hg]; exact Nat.ne_of_lt (zF (g := gb799) (o := .cells #[.int .i64 0, .int .i64 0, .slice none 0 0] 68 (0, 0)) (BK799.out)) : gb799 ≠ gb804)); have NB804_799 := ze.mk ((by rw [hg]; exact Nat.ne_of_gt (zF (g := gb799) (o := .cells #[.int .i64 0, .int .i64 0, .slice none 0 0] 68 (0, 0)) (BK799.out)) : gb804 ≠ gb799)); replace BK799 := ze.mk (zb BK799.out hb); clear hb hbox hg; have hnb30 := NB804_799.out; have hnc30 := NB799_804.out; obtain ⟨hcz31_0, hcz31_1, hcz31_2⟩ := zS BK804.out; obtain ⟨hfz31_0, hfz31_1, hfz31_2⟩ := xD BK804.out; obtain ⟨hcz32_0, hcz32_1, hcz32_2⟩ := zS BK799.out; obtain ⟨hfz32_0, hfz32_1, hfz32_2⟩ := xD BK799.out))
  refine bodyPost_ret (qW rfl _ _ gb799 68 #[.int .i64 0, .int .i64 0, .slice none 0 0] (0, 0) _ rfl (by (with_reducible repeat (first | refine zm ?_ _ | refine zn ?_ | refine zg ?_ _)); refine zQ (cs := #[.int .i64 0, .int .i64 0, .slice none 0 0]) ?_ 2 _ rfl; (with_reducible repeat (first | refine zm ?_ _ | refine zn ?_ | refine zg ?_ _)); refine zQ (cs := #[.int .i64 0, .int .i64 0, .slice none 0 0]) ?_ 1 _ rfl; (with_reducible repeat (first | refine zm ?_ _ | refine zn ?_ | refine zg ?_ _)); refine zQ (cs := #[.int .i64 0, .int .i64 0, .slice none 0 0]) ?_ 0 _ rfl; (with_reducible repeat (first | refine zm ?_ _ | refine zn ?_ | refine zg ?_ _)); refine yI ?_ NB799_804.out _; (with_reducible repeat (first | refine zm ?_ _ | refine zn ?_ | refine zg ?_ _)); refine yI ?_ NB799_804.out _; (with_reducible repeat (first | refine zm ?_ _ | refine zn ?_ | refine zg ?_ _)); refine yI ?_ NB799_804.out _; (with_reducible repeat (first | refine zm ?_ _ | refine zn ?_ | refine zg ?_ _)); exact BK799.out) Tryz.underlying68 rfl (by kernel_rfl)) rfl ?_
  exact ⟨_, by first | rfl | (simp [zC, zD] <;> rfl) | (simp [*, zC, zD] <;> rfl), by first | exact Kd.ql _ _ _ _ _ | exact Kd.N_nil _ _ _ _ _ | exact Kd.V_nil _ _ _ _ _ | exact Kd.Q_nil _ _ _ _ _ | exact Kd.S_nil _ _ _ _ _, by repeat (first | (with_reducible first | exact HB.out | apply zy | apply zq | apply zI | refine zM ?_ GE799.out | refine zM ?_ GE804.out) | exact HB.out)⟩
end Go.Proofs.YtlalbohhopmpdaaGreat.PTop
namespace Go.Proofs.YtlalbohhopmpdaaGreat.LemBytesTop
open Go.RowKit Go.Proofs.YtlalbohhopmpdaaGreat.PTop Go.YW.PrintWords Go.YW.PrintLast Go.YW.PrintMore Go.Proofs.YtlalbohhopmpdaaGreat.Num
theorem put_eq (l : List Int) (w : Int) (h0 : 0 ≤ w) (h1 : w < 65536) (hl : l.length ≤ 100000) : xn.f l w = some (l ++ [w / 256, w % 256]) := by
  unfold xn.f
  rw [zu (by omega) (by omega), if_pos (by omega), if_pos (by omega)]
  simp only [Option.bind_some, List.replicate_zero, List.length_nil, List.nil_append, List.length_cons]
  rw [if_pos (by omega), if_pos (by omega)]
  congr 3
  omega
theorem Xp (l : List Int) (i : Nat) (hl : l.length ≤ 100000) (h : i + 2 ≤ l.length) (hb : ∀ x ∈ l, 0 ≤ x ∧ x < 256) : yZ.f l (i : Int) = some (l[i]'(by omega) * 256 + l[i + 1]'(by omega), true) := by
  unfold yZ.f
  have ha := hb (l[i]'(by omega)) (List.getElem_mem _)
  have hc := hb (l[i + 1]'(by omega)) (List.getElem_mem _)
  have r0 : rd l (i : Int) = l[i]'(by omega) := by simp [rd, List.getD_eq_getElem?_getD, List.getElem?_eq_getElem (show i < l.length by omega)]
  have r1 : rd l ((i : Int) + 1) = l[i + 1]'(by omega) := by
    have : ((i : Int) + 1).toNat = i + 1 := by omega
    simp [rd, this, List.getD_eq_getElem?_getD, List.getElem?_eq_getElem (show i + 1 < l.length by omega)]
  rw [if_neg (by omega), zu (by omega) (by omega), if_neg (by omega), if_pos (by omega), if_pos (by omega), zu (by omega) (by omega), if_pos (by omega), if_pos (by omega), r0, r1]
  rw [jE (x := l[i]'(by omega)) (by omega) (by omega), jE (by omega) (by omega), jE (by omega) (by omega), Ya _ _ (by omega) (by omega) (by omega) (by omega) (by omega)]
end Go.Proofs.YtlalbohhopmpdaaGreat.LemBytesTop
namespace Go.Proofs.YtlalbohhopmpdaaGreat.LemHeadTop
open Go.RowKit Go.Proofs.YtlalbohhopmpdaaGreat.PTop Go.YW.PrintWords Go.YW.PrintLast Go.YW.PrintMore Go.Proofs.YtlalbohhopmpdaaGreat.Num Go.Proofs.YtlalbohhopmpdaaGreat.LemBytesTop
def Ok (t l u : Int) : Prop := 0 ≤ t ∧ t ≤ 65535 ∧ 2 ≤ l ∧ l ≤ 254 ∧ 0 ≤ u ∧ u ≤ 255
instance (t l u : Int) : Decidable (Ok t l u) := by unfold Ok; infer_instance
def hb (t l u : Int) : List Int := [t / 256, t % 256, 0, 0, 0, l, u]
theorem zbb (x a b : Int) (hab : a ≤ b) : (x == mn (mx x a) b) = decide (a ≤ x ∧ x ≤ b) := by
  rw [Bool.eq_iff_iff]
  simp only [beq_iff_eq, decide_eq_true_eq]
  unfold mn mx
  split <;> split <;> omega
theorem JF (t l u : Int) : (!(t == mn (mx t 0) 65535) || (!(l == mn (mx l 2) 254) || (!(u == mn (mx u 0) 255)))) = !decide (Ok t l u) := by
  have e : Ok t l u ↔ (0 ≤ t ∧ t ≤ 65535) ∧ (2 ≤ l ∧ l ≤ 254) ∧ (0 ≤ u ∧ u ≤ 255) := by unfold Ok; constructor <;> intro h <;> omega
  rw [zbb t 0 65535 (by omega), zbb l 2 254 (by omega), zbb u 0 255 (by omega), Bool.eq_iff_iff]
  simp only [Bool.or_eq_true, Bool.not_eq_true', decide_eq_false_iff_not, e]
  omega
theorem zdp (l : List Int) (h : l.length ≤ 100000) : l.length < 140737488355328 := by omega
theorem zdP (t l u : Int) (h : Ok t l u) : [] ++ [t / 256, t % 256] ++ [0 / 256, 0 % 256] ++ [l / 256, l % 256] ++ [u % 256] = hb t l u := by
  unfold Ok at h
  rw [show l / 256 = 0 by omega, show l % 256 = l by omega, show u % 256 = u by omega]
  rfl
theorem six (l : List Int) (h : 6 ≤ l.length) : ∃ b0 b1 b2 b3 b4 b5 r, l = b0 :: b1 :: b2 :: b3 :: b4 :: b5 :: r := by
  rcases l with _ | ⟨b0, _ | ⟨b1, _ | ⟨b2, _ | ⟨b3, _ | ⟨b4, _ | ⟨b5, r⟩⟩⟩⟩⟩⟩
  · simp at h
  · simp at h
  · simp at h
  · simp at h
  · simp at h
  · simp at h
  · exact ⟨b0, b1, b2, b3, b4, b5, r, rfl⟩
theorem zcQ (t l u : Int) (h : Ok t l u) : jv.f t l u = some (hb t l u, 0) := by
  unfold jv.f xQ.f
  rw [Option.bind_some, JF, dT h, if_neg (by decide)]
  unfold Ok at h
  rw [jE (by omega) (by omega), put_eq _ _ (by omega) (by omega) (by simp only [List.length_append, List.length_cons, List.length_nil]; omega), Option.bind_some]
  rw [put_eq _ _ (by omega) (by omega) (by simp only [List.length_append, List.length_cons, List.length_nil]; omega), Option.bind_some]
  rw [jE (by omega) (by omega), put_eq _ _ (by omega) (by omega) (by simp only [List.length_append, List.length_cons, List.length_nil]; omega), Option.bind_some]
  rw [if_pos (zdp _ (by simp only [List.length_append, List.length_cons, List.length_nil]; omega)), zdP t l u (by unfold Ok; omega)]
theorem YW (l : List Int) (w : Int) (h0 : 0 ≤ w) (h1 : w < 65536) (hl : l.length ≤ 100000) : xC.f l w = some (l ++ [w / 256, w % 256]) := by
  unfold xC.f
  rw [if_pos (by simp; omega)]
  simp only [Option.bind_some, List.nil_append, QW h0 (by omega : (0 : Int) ≤ 256), JZ h0]
  rw [if_pos (by simp; omega), jE (by omega) (by omega)]
  congr 3
  · omega
  · congr 1; omega
theorem zdv (l : List Int) (w : Int) (h0 : 0 ≤ w) (h1 : w < 65536) (hl : l.length ≤ 100000) : yH.f l w = some (l ++ [w / 256, w % 256]) := by
  unfold yH.f
  rw [jE (by omega) (by omega), YW l w h0 h1 hl]
  rfl
def qC : List Int → Int × Int × Int × Int
  | b0 :: b1 :: b2 :: b3 :: b4 :: b5 :: r =>
    if b2 * 256 + b3 = 0 ∧ 2 ≤ b4 * 256 + b5 ∧ b4 * 256 + b5 ≤ 254 then (match r with | [] => (0, 0, 0, 3) | b6 :: _ => (b0 * 256 + b1, b4 * 256 + b5, b6, 0)) else (0, 0, 0, 2)
  | _ => (0, 0, 0, 3)
theorem KQ (b0 b1 b2 b3 b4 b5 : Int) : qC [b0, b1, b2, b3, b4, b5] = if b2 * 256 + b3 = 0 ∧ 2 ≤ b4 * 256 + b5 ∧ b4 * 256 + b5 ≤ 254 then (0, 0, 0, 3) else (0, 0, 0, 2) := rfl
theorem Vb (b0 b1 b2 b3 b4 b5 b6 : Int) (r : List Int) : qC (b0 :: b1 :: b2 :: b3 :: b4 :: b5 :: b6 :: r) = if b2 * 256 + b3 = 0 ∧ 2 ≤ b4 * 256 + b5 ∧ b4 * 256 + b5 ≤ 254 then (b0 * 256 + b1, b4 * 256 + b5, b6, 0) else (0, 0, 0, 2) := rfl
theorem Yj (l : List Int) (h : l.length < 6) : qC l = (0, 0, 0, 3) := by
  match l, h with
  | [], _ => rfl
  | [_], _ => rfl
  | [_, _], _ => rfl
  | [_, _, _], _ => rfl
  | [_, _, _, _], _ => rfl
  | [_, _, _, _, _], _ => rfl
theorem zc2 (l : List Int) (hl : l.length ≤ 100000) (hb : B8 l) {k : Nat} (hk : 2 ≤ k) : zX.f k l = some (qC l) := by
  obtain ⟨k, rfl⟩ : ∃ m, k = m + 1 := ⟨k - 1, by omega⟩
  unfold zX.f
  by_cases h6 : (l.length : Int) < 6
  · rw [if_pos h6, Yj l (by omega)]
  · rw [if_neg h6]
    obtain ⟨b0, b1, b2, b3, b4, b5, r, rfl⟩ := six l (by omega)
    · clear h6
      have g0 := Xp (b0 :: b1 :: b2 :: b3 :: b4 :: b5 :: r) 0 hl (by simp) hb
      have g2 := Xp (b0 :: b1 :: b2 :: b3 :: b4 :: b5 :: r) 2 hl (by simp) hb
      have g4 := Xp (b0 :: b1 :: b2 :: b3 :: b4 :: b5 :: r) 4 hl (by simp) hb
      simp only [List.getElem_cons_zero, List.getElem_cons_succ] at g0 g2 g4
      have e0 : yZ.f (b0 :: b1 :: b2 :: b3 :: b4 :: b5 :: r) 0 = some (b0 * 256 + b1, true) := g0
      have e2 : yZ.f (b0 :: b1 :: b2 :: b3 :: b4 :: b5 :: r) 2 = some (b2 * 256 + b3, true) := g2
      have e4 : yZ.f (b0 :: b1 :: b2 :: b3 :: b4 :: b5 :: r) 4 = some (b4 * 256 + b5, true) := g4
      have c0 := hb b0 (by simp)
      have c1 := hb b1 (by simp)
      have c2 := hb b2 (by simp)
      have c3 := hb b3 (by simp)
      have c4 := hb b4 (by simp)
      have c5 := hb b5 (by simp)
      rw [e0, e2, e4]
      simp only [Option.bind_some]
      have hj : ∀ a b c, zX.j0 (k + 1) (b0 :: b1 :: b2 :: b3 :: b4 :: b5 :: r) true a b c = some (0, 0, 0, 2) := by intros; simp [zX.j0]
      by_cases hp : b2 * 256 + b3 = 0
      · rw [if_pos hp, zu (x := b0 * 256 + b1) (by omega) (by omega), zu (x := b4 * 256 + b5) (by omega) (by omega)]
        unfold xQ.f
        simp only [Option.bind_some]
        rw [JF]
        by_cases ho : 2 ≤ b4 * 256 + b5 ∧ b4 * 256 + b5 ≤ 254
        · rw [decide_eq_true (show Ok _ _ _ by unfold Ok; omega)]
          simp only [qC]
          rw [if_pos ⟨hp, ho⟩]
          simp only [Bool.not_true, zX.j0, Bool.false_eq_true, if_false]
          match r, hb with
          | [], _ => simp
          | b6 :: r, hb =>
            have c6 := hb b6 (by simp)
            rw [if_neg (by simp; omega), if_pos (by simp; omega)]
            have hr : rd (b0 :: b1 :: b2 :: b3 :: b4 :: b5 :: b6 :: r) 6 = b6 := by simp [rd]
            rw [hr, zu (by omega) (by omega)]
        · rw [decide_eq_false (show ¬ Ok _ _ _ by unfold Ok; omega)]
          simp only [qC]
          rw [if_neg (by omega)]
          exact hj _ _ _
      · rw [if_neg hp, hj]
        simp only [qC]
        rw [if_neg (by omega)]
theorem zbf (t l u : Int) (h : Ok t l u) (more : List Int) : qC (hb t l u ++ more) = (t, l, u, 0) := by
  unfold Ok at h
  simp only [hb, List.cons_append, List.nil_append, qC]
  rw [if_pos (by omega)]
  simp
  omega
theorem zdS (t l u : Int) (h : Ok t l u) : B8 (hb t l u) := by
  unfold Ok at h
  intro x hx
  simp only [hb, List.mem_cons, List.not_mem_nil, or_false] at hx
  omega
end Go.Proofs.YtlalbohhopmpdaaGreat.LemHeadTop
namespace Go.Proofs.YtlalbohhopmpdaaGreat.LemBytes2Top
open Go.RowKit Go.Proofs.YtlalbohhopmpdaaGreat.PTop Go.YW.PrintWords Go.YW.PrintLast Go.YW.PrintMore Go.Proofs.YtlalbohhopmpdaaGreat.Num Go.Proofs.YtlalbohhopmpdaaGreat.LemBytesTop
def gt (l : List Int) (at_ : Int) : Int × Bool := if 0 ≤ at_ ∧ at_ + 2 ≤ l.length then (rd l at_ * 256 + rd l (at_ + 1), true) else (0, false)
theorem YH (l : List Int) (hb : B8 l) (i : Int) (h0 : 0 ≤ i) (h : i < l.length) : 0 ≤ rd l i ∧ rd l i < 256 := by
  obtain ⟨j, rfl⟩ := Int.eq_ofNat_of_zero_le h0
  rw [zcW l j (by omega)]
  exact hb _ (List.getElem_mem _)
theorem Ky (l : List Int) (at_ : Int) (hl : l.length ≤ 100000) (ha : -9223372036854775808 ≤ at_ ∧ at_ < 9223372036854775808) (hb : B8 l) : xk.f l at_ = some (gt l at_) := by
  unfold xk.f gt
  by_cases h0 : at_ < 0
  · rw [if_pos h0, if_neg (by omega)]
  · rw [if_neg h0, zu (x := (l.length : Int) - 2) (by omega) (by omega)]
    by_cases h : at_ + 2 ≤ l.length
    · have b0 := YH l hb at_ (by omega) (by omega)
      have b1 := YH l hb (at_ + 1) (by omega) (by omega)
      rw [if_neg (by omega), if_pos (by omega), if_pos (by omega), zu (by omega) (by omega), if_pos (by omega), if_pos (by omega), if_pos ⟨by omega, h⟩,
        jE (x := rd l at_) (by omega) (by omega), jE (x := rd l at_ * 256) (by omega) (by omega), jE (x := rd l (at_ + 1)) (by omega) (by omega), jE (by omega) (by omega)]
    · rw [if_pos (by omega), if_neg (by omega)]
theorem YW (l : List Int) (w : Int) (h0 : 0 ≤ w) (h1 : w < 65536) (hl : l.length ≤ 100000) : xC.f l w = some (l ++ [w / 256, w % 256]) := by
  unfold xC.f
  rw [if_pos (by simp; omega)]
  simp only [Option.bind_some, List.nil_append, QW h0 (by omega : (0 : Int) ≤ 256), JZ h0]
  rw [if_pos (by simp; omega), jE (by omega) (by omega)]
  congr 3
  · omega
  · congr 1; omega
end Go.Proofs.YtlalbohhopmpdaaGreat.LemBytes2Top
namespace Go.Proofs.YtlalbohhopmpdaaGreat.LemHead2Top
open Go.RowKit Go.Proofs.YtlalbohhopmpdaaGreat.PTop Go.YW.PrintWords Go.YW.PrintLast Go.YW.PrintMore Go.Proofs.YtlalbohhopmpdaaGreat.Num Go.Proofs.YtlalbohhopmpdaaGreat.LemBytesTop Go.Proofs.YtlalbohhopmpdaaGreat.LemBytes2Top Go.Proofs.YtlalbohhopmpdaaGreat.LemHeadTop
theorem Zz (l : List Int) (at_ : Int) (hl : l.length ≤ 100000) (h0 : 0 ≤ at_) (h : at_ + 2 ≤ l.length) (hb : B8 l) : zP.f l at_ = some (rd l at_ * 256 + rd l (at_ + 1)) := by
  have b0 := YH l hb at_ (by omega) (by omega)
  have b1 := YH l hb (at_ + 1) (by omega) (by omega)
  unfold zP.f
  rw [Ky l at_ hl (by omega) hb, Option.bind_some]
  unfold gt
  rw [if_pos ⟨h0, h⟩]
  dsimp only
  rw [zu (by omega) (by omega)]
theorem Xx (l : List Int) (hl : l.length ≤ 100000) (hb : B8 l) {k : Nat} (hk : 2 ≤ k) : zA.f k l = some (qC l) := by
  obtain ⟨k, rfl⟩ : ∃ m, k = m + 1 := ⟨k - 1, by omega⟩
  unfold zA.f
  by_cases h6 : (l.length : Int) < 6
  · rw [if_pos h6, Yj l (by omega)]
  · rw [if_neg h6]
    obtain ⟨b0, b1, b2, b3, b4, b5, r, rfl⟩ := six l (by omega)
    rw [Zz _ 4 hl (by omega) (by simp; omega) hb, Option.bind_some, Zz _ 2 hl (by omega) (by simp; omega) hb, Option.bind_some]
    have e2 : rd (b0 :: b1 :: b2 :: b3 :: b4 :: b5 :: r) 2 = b2 ∧ rd (b0 :: b1 :: b2 :: b3 :: b4 :: b5 :: r) (2 + 1) = b3 := ⟨rfl, rfl⟩
    have e4 : rd (b0 :: b1 :: b2 :: b3 :: b4 :: b5 :: r) 4 = b4 ∧ rd (b0 :: b1 :: b2 :: b3 :: b4 :: b5 :: r) (4 + 1) = b5 := ⟨rfl, rfl⟩
    rw [e2.1, e2.2, e4.1, e4.2]
    have hj : ∀ x, zA.j0 (k + 1) (b0 :: b1 :: b2 :: b3 :: b4 :: b5 :: r) x true = some (0, 0, 0, 2) := fun x => by rw [zA.j0, if_pos rfl]
    by_cases hp : b2 * 256 + b3 = 0 ∧ 2 ≤ b4 * 256 + b5 ∧ b4 * 256 + b5 ≤ 254
    · rw [if_pos hp.1, if_neg (by omega), decide_eq_false (by omega), zA.j0, if_neg (by decide)]
      match r, hb, hl with
      | [], hb, hl =>
        rw [KQ, if_pos hp, if_pos (by simp)]
      | b6 :: r, hb, hl =>
        have c6 := hb b6 (by simp)
        rw [Vb, if_pos hp, if_neg (by simp; omega), Zz _ 0 hl (by omega) (by simp; omega) hb, Option.bind_some, if_pos (by simp; omega)]
        have e0 : rd (b0 :: b1 :: b2 :: b3 :: b4 :: b5 :: b6 :: r) 0 = b0 ∧ rd (b0 :: b1 :: b2 :: b3 :: b4 :: b5 :: b6 :: r) (0 + 1) = b1 ∧ rd (b0 :: b1 :: b2 :: b3 :: b4 :: b5 :: b6 :: r) 6 = b6 := ⟨rfl, rfl, rfl⟩
        rw [e0.1, e0.2.1, e0.2.2, zu (by omega) (by omega)]
    · have hl2 : qC (b0 :: b1 :: b2 :: b3 :: b4 :: b5 :: r) = (0, 0, 0, 2) := by
        match r with
        | [] => rw [KQ, if_neg hp]
        | b6 :: r => rw [Vb, if_neg hp]
      rw [hl2]
      by_cases h1 : b2 * 256 + b3 = 0
      · rw [if_pos h1]
        by_cases h2 : b4 * 256 + b5 < 2
        · rw [if_pos h2, hj]
        · rw [if_neg h2, decide_eq_true (by omega), hj]
      · rw [if_neg h1, hj]
end Go.Proofs.YtlalbohhopmpdaaGreat.LemHead2Top
namespace Go.Proofs.YtlalbohhopmpdaaGreat.LemAduTop
open Go.RowKit Go.Proofs.YtlalbohhopmpdaaGreat.PTop Go.YW.PrintWords Go.YW.PrintLast Go.YW.PrintMore Go.Proofs.YtlalbohhopmpdaaGreat.Num Go.Proofs.YtlalbohhopmpdaaGreat.LemHeadTop Go.Proofs.YtlalbohhopmpdaaGreat.LemHead2Top
theorem xM (t l u : Int) : (hb t l u).length = 7 := rfl
theorem zdr (a b : Nat) (h : a ≤ b) : Kd.cnt a b = (a : Int) := by unfold Kd.cnt; rw [Nat.min_eq_left h]
theorem YN (h p : List Int) (n : Nat) (hh : h.length = 7) (hn : n = 7 + p.length) : Kd.laid (Kd.laid (List.replicate n 0) 0 (min h.length n) h) 7 (min p.length (n - 7)) p = h ++ p := by
  subst hn
  have e1 : Kd.laid (List.replicate (7 + p.length) (0 : Int)) 0 (min h.length (7 + p.length)) h = h ++ List.replicate p.length 0 := by
    unfold Kd.laid
    rw [hh, Nat.min_eq_left (by omega), List.take_zero, List.nil_append, Nat.zero_add, List.drop_replicate, List.take_of_length_le (by omega), show 7 + p.length - 7 = p.length by omega]
  rw [e1]
  unfold Kd.laid
  rw [show 7 + p.length - 7 = p.length by omega, Nat.min_self, List.take_length, List.take_append_of_le_length (by omega), List.take_of_length_le (by omega), List.drop_eq_nil_of_le (by rw [List.length_append, List.length_replicate]; omega), List.append_nil]
theorem Xl (t u : Int) (p : List Int) (hp : p.length ≤ 10000) (h : Ok t ((p.length : Int) + 1) u) : xE.f t u p = some (hb t ((p.length : Int) + 1) u ++ p, 0) := by
  unfold xE.f
  have e7 : (wrap64 (7 + (p.length : Int)) : Int).toNat = 7 + p.length := by rw [zu (by omega) (by omega)]; omega
  rw [zu (x := (p.length : Int) + 1) (by omega) (by omega), zcQ _ _ _ h, Option.bind_some, if_pos rfl, if_pos (by rw [zu (by omega) (by omega)]; omega), if_pos (by rw [e7]; omega), Option.bind_some]
  dsimp only
  rw [e7, if_pos (by rw [List.length_replicate]; omega), Option.bind_some, List.length_replicate]
  have hll : (Kd.laid (List.replicate (7 + p.length) 0) 0 (min (hb t ((p.length : Int) + 1) u).length (7 + p.length)) (hb t ((p.length : Int) + 1) u)).length = 7 + p.length := by
    rw [Kd.qK _ _ _ _ (by rw [List.length_replicate, xM]; omega) (by rw [xM]; omega), List.length_replicate]
  rw [hll, List.length_drop, hll, xM, zdr 7 (7 + p.length) (by omega), if_pos (by omega), if_pos (by omega), if_pos (by omega), show ((7 : Nat) : Int).toNat = 7 from rfl]
  have h2 := YN (hb t ((p.length : Int) + 1) u) p (7 + p.length) rfl rfl
  rw [xM] at h2
  rw [h2]
def jH (l : List Int) : Int × Int × List Int × Int × Int :=
  if (qC l).2.2.2 = 0 then (if (l.length : Int) < 6 + (qC l).2.1 then (0, 0, [], 0, 3) else ((qC l).1, (qC l).2.2.1, (l.take (6 + (qC l).2.1).toNat).drop 7, 6 + (qC l).2.1, 0)) else (0, 0, [], 0, (qC l).2.2.2)
theorem JD (l : List Int) (h : (qC l).2.2.2 = 0) : 2 ≤ (qC l).2.1 ∧ (qC l).2.1 ≤ 254 := by
  by_cases h6 : l.length < 6
  · rw [Yj l h6] at h; simp at h
  · obtain ⟨b0, b1, b2, b3, b4, b5, r, rfl⟩ := six l (by omega)
    match r with
    | [] =>
      rw [KQ] at h
      split at h <;> simp at h
    | b6 :: r =>
      rw [Vb] at h ⊢
      split at h
      · rename_i hc
        rw [if_pos hc]
        exact hc.2
      · simp at h
theorem zc4 (l : List Int) (hl : l.length ≤ 100000) (hb : B8 l) {k : Nat} (hk : 2 ≤ k) : qJ.f k l = some (jH l) := by
  unfold qJ.f jH
  rw [zc2 l hl hb hk, Option.bind_some]
  by_cases h0 : (qC l).2.2.2 = 0
  · have h1 := JD l h0
    rw [if_pos h0, if_pos h0, zu (by omega) (by omega)]
    by_cases h2 : (l.length : Int) < 6 + (qC l).2.1
    · rw [if_pos h2, if_pos h2]
    · rw [if_neg h2, if_neg h2, if_pos (by omega), if_pos (by omega)]
      unfold yB.f
      rw [if_pos (by rw [List.length_drop, List.length_take]; omega), Option.bind_some]
  · rw [if_neg h0, if_neg h0]
theorem WO (l : List Int) (hl : l.length ≤ 100000) (hb : B8 l) {k : Nat} (hk : 2 ≤ k) : yw.f k l = some (jH l) := by
  unfold yw.f jH
  rw [Xx l hl hb hk, Option.bind_some]
  by_cases h0 : (qC l).2.2.2 = 0
  · have h1 := JD l h0
    rw [if_pos h0, if_pos h0, zu (by omega) (by omega)]
    by_cases h2 : (l.length : Int) < 6 + (qC l).2.1
    · rw [if_pos h2, if_pos h2]
    · rw [if_neg h2, if_neg h2, if_pos (by omega), if_pos (by omega), if_pos (by rw [List.length_drop, List.length_take, List.length_nil]; omega), List.nil_append]
  · rw [if_neg h0, if_neg h0]
theorem XK (t u : Int) (p m : List Int) (h : Ok t ((p.length : Int) + 1) u) : jH (hb t ((p.length : Int) + 1) u ++ p ++ m) = (t, u, p, 7 + (p.length : Int), 0) := by
  unfold jH
  rw [List.append_assoc, zbf _ _ _ h, if_pos rfl, if_neg (by simp only [List.length_append, xM]; omega)]
  have e : (6 + ((p.length : Int) + 1)).toNat = 7 + p.length := by omega
  dsimp only
  rw [e, List.take_append, xM, show 7 + p.length - 7 = p.length by omega, List.take_of_length_le (by rw [xM]; omega), List.take_append_of_le_length (by omega), List.take_length, List.drop_append, xM, Nat.sub_self, List.drop_zero, List.drop_eq_nil_of_le (by rw [xM]; omega), List.nil_append]
  congr 3
  congr 1
  omega
theorem Jr (t u : Int) (p : List Int) (h : Ok t ((p.length : Int) + 1) u) (hp : B8 p) : B8 (hb t ((p.length : Int) + 1) u ++ p) := by
  intro x hx
  rcases List.mem_append.1 hx with h1 | h1
  · exact zdS _ _ _ h x h1
  · exact hp x h1
end Go.Proofs.YtlalbohhopmpdaaGreat.LemAduTop
namespace Go.Proofs.YtlalbohhopmpdaaGreat.Top
open Go.RowKit Go.Proofs.YtlalbohhopmpdaaGreat.PTop Go.YW.PrintWords Go.YW.PrintLast Go.YW.PrintMore Go.Proofs.YtlalbohhopmpdaaGreat.Num
open Go.Proofs.YtlalbohhopmpdaaGreat.Ring (yT yt Fr2 Fr3 kr kJ Xn jQ xh qj)
open Go.Proofs.YtlalbohhopmpdaaGreat.LemHeadTop Go.Proofs.YtlalbohhopmpdaaGreat.LemAduTop
attribute [local go_sem] zk zo
theorem ZZ (q : List Int) (hb : B8 q) : Ring.CutIs jH q := by
  intro W A n c hn hC hc
  subst hn
  exact qJ.calls 10 A c (q.take 260) _ _ _ _ _ W hC hc (zc4 (q.take 260) (by rw [List.length_take]; omega) (fun x hx => hb x (List.mem_of_mem_take hx)) (by omega))
theorem yn {w : World} {cs : Array Value} {m gr o : Value} {dk ss n gb : Nat} {L : Nat → Nat → Nat} (h : w.heap[gb]? = some (.cells cs 98 (0, 0))) (hc : GCs cs m gr o dk ss n L) :
    w.cell? ⟨gb, 0, none⟩ = some m ∧ w.cell? ⟨gb, 1, none⟩ = some gr ∧ w.cell? ⟨gb, 2, none⟩ = some (.int .i64 100) ∧ w.cell? ⟨gb, 3, none⟩ = some (.int .i64 1000) ∧ w.cell? ⟨gb, 4, none⟩ = some (.int .i64 8) ∧ w.cell? ⟨gb, 5, none⟩ = some (.int .i64 8) ∧ w.cell? ⟨gb, 6, none⟩ = some (.int .i64 100000) ∧ w.cell? ⟨gb, 7, none⟩ = some (.int .i64 500) ∧ w.cell? ⟨gb, 8, none⟩ = some (.int .i64 2000) ∧ w.cell? ⟨gb, 9, none⟩ = some (.int .i64 1024) ∧ w.cell? ⟨gb, 10, none⟩ = some (.int .i64 1024) ∧ w.cell? ⟨gb, 11, none⟩ = some (.int .u64 0) ∧ w.cell? ⟨gb, 12, none⟩ = some o ∧ w.cell? ⟨gb, 14, none⟩ = some (.pointer (some ⟨ss, 0, none⟩)) :=
  ⟨(za h 0).trans (hc.cfg 0 (by decide)), (za h 1).trans (hc.cfg 1 (by decide)), (za h 2).trans (hc.cfg 2 (by decide)), (za h 3).trans (hc.cfg 3 (by decide)), (za h 4).trans (hc.cfg 4 (by decide)), (za h 5).trans (hc.cfg 5 (by decide)), (za h 6).trans (hc.cfg 6 (by decide)), (za h 7).trans (hc.cfg 7 (by decide)), (za h 8).trans (hc.cfg 8 (by decide)), (za h 9).trans (hc.cfg 9 (by decide)), (za h 10).trans (hc.cfg 10 (by decide)), (za h 11).trans (hc.cfg 11 (by decide)), (za h 12).trans (hc.cfg 12 (by decide)), (za h 14).trans hc.ss⟩
def jP (B N N' : Nat) (x : Ix) (g g' : Sg) (k : Int) (p bl : List Int) : Prop := ∀ (w1 : World) (m gr o : Value) (g0 cap B0 : Nat), ym w1 B N x g → qO w1 m gr → Kd.R (Kd.int .u8) 5 w1 B0 (fun _ => True) (.slice (some ⟨g0, 0, none⟩) p.length cap) p →
  Calls Tryz.prog 64 #[.pointer (some ⟨x.ss, 0, none⟩), .agg (xR m gr o), .int .i64 k, .slice (some ⟨g0, 0, none⟩) p.length cap] w1 fun e w' => ∃ A c, e = .returned (.slice A bl.length c) ∧ bl.length ≤ c ∧ Kd.F (Kd.int .u8) w' (fun k => w1.heap.size ≤ k) A bl.length bl ∧ ym w' B N' x g' ∧ Ch TS (MS x) B w1 w'
open Go.Proofs.YtlalbohhopmpdaaGreat.Tiny
theorem Qu (w : World) (B N N' : Nat) (x : Ix) (g g' : Sg) (gb dk n : Nat) (L : Nat → Nat → Nat) (Qi Qo : Nat → List Int) (h : zR w B N x g gb dk n L Qi Qo) (hc : 0 < n) (t u m0 : Int) (p bl : List Int) (hb8 : B8 (Qi 0)) (hf : xh jH (Qi 0) false = (t, u, p, m0, 0)) (hp : 0 < p.length) (hnx : (Qi 0).drop m0.toNat = []) (hqo : Qo 0 = []) (hS : jP B N N' x g g' 0 p bl) (hOk : Ok t ((bl.length : Int) + 1) u) :
    Calls Tryz.prog 33 #[.pointer (some ⟨gb, 0, none⟩), .int .i64 0] w fun e w' => e = .returned (.agg #[.bool true, .int .i64 1, .slice none 0 0]) ∧ zR w' B N' x g' gb dk n L (ja Qi 0 []) (ja Qo 0 (hb t ((bl.length : Int) + 1) u ++ bl)) ∧ Ch TG (MS x) B w w' := by
  have hu98 := Tryz.underlying98
  have hu96 := Tryz.underlying96
  have hu95 := Tryz.underlying95
  have hu61 := Tryz.underlying61
  have hu141 := Tryz.underlying141
  have hu30 := Tryz.underlying30
  have B1 := hQ (show Below w.heap.size w (w.alloc (.cells #[.bool false, .int .i64 0, .slice none 0 0] 61)) from (Below.refl _ _).alloc (Nat.le_refl _) _)
  have X1 := hQ (zi w (.cells #[.bool false, .int .i64 0, .slice none 0 0] 61))
  have L1 := hQ (xx.mk' h B1.out X1.out X1.out (by omega) (by omega) (by decide) (by decide))
  have HS := fun (W : World) (hW : zR W B N x g gb dk n L Qi Qo) => jS W B N x g gb dk n L Qi Qo hW 0 hc
  have e1 : (!((xh jH (Qi 0) false).2.2.2.2 == 3)) = true := by rw [hf]; rfl
  have HR := fun (W : World) (hW : zR W B N x g gb dk n L Qi Qo) => kr jH W (L 0 0) (L 0 1) (L 0 2) 1024 (Qi 0) false (hW.fl 0 hc) (ZZ _ hb8)
  rw [e1] at HR
  have HM := fun (W : World) (hW : zR W B N x g gb dk n L Qi Qo) => Xn W (L 0 3) (L 0 4) 1024 (Qo 0) (hW.rg 0 hc)
  have e2 : ((1024 : Nat) : Int) - ((Qo 0).length : Int) = 1024 := by rw [hqo]; rfl
  rw [e2] at HM
  have HN := fun (W : World) (hW : zR W B N x g gb dk n L Qi Qo) => kJ jH W (L 0 0) (L 0 1) (L 0 2) 1024 (Qi 0) false (hW.fl 0 hc) (ZZ _ hb8) t u p m0 0 hf
  have e3 : qj jH (Qi 0) false = ([], false) := by unfold qj; rw [hf]; simp only; rw [if_neg (by decide), hnx]
  rw [e3] at HN
  have HP := hQ hp
  have HV := hQ hS
  have HO := hQ hOk
  have HQ := hQ hqo
  have HC := hQ hc
  have hcells := fun (W : World) (hW : zR W B N x g gb dk n L Qi Qo) => (hW.cells.2.2 0 hc)
  have hfl := fun (W W' : World) (hW : zR W B N x g gb dk n L Qi Qo) (q : List Int) (hw : yT W' (L 0 0) (L 0 1) (L 0 2) 1024 q false) (hf : Fr3 (L 0 0) (L 0 1) (L 0 2) W W') => And.intro (hW.flow hc hw hf) (hW.flowC hc hf)
  clear h hc hb8 hf hp hnx hqo hS hOk e1 e2 e3
  go_enter Tryz.func33, Tryz.ntmps33
  go_wp2_with (fail)
  refine (HS _ L1.out.gt).mono ?_
  rintro e w2 ⟨rfl, hb⟩
  have L2 := hQ (L1.out.below hb)
  have X2 := hQ (zb X1.out hb)
  clear hb HS
  have p0 : w2.cell? ⟨gb, 15, none⟩ = some (.pointer (some ⟨L 0 0, 0, none⟩)) := (hcells _ L2.out.gt).1
  go_wp2_with (fail)
  refine (HR _ L2.out.gt).mono ?_
  rintro e w3 ⟨rfl, hb⟩
  have L3 := hQ (L2.out.below hb)
  have X3 := hQ (zb X2.out hb)
  clear hb HR p0
  have p0 : w3.cell? ⟨gb, 16, none⟩ = some (.pointer (some ⟨L 0 3, 0, none⟩)) := (hcells _ L3.out.gt).2
  go_wp2_with (fail)
  refine (HM _ L3.out.gt).mono ?_
  rintro e w3b ⟨rfl, hb⟩
  have L3b := hQ (L3.out.below hb)
  have X3b := hQ (zb X3.out hb)
  clear hb HM p0
  have p0 : w3b.cell? ⟨gb, 15, none⟩ = some (.pointer (some ⟨L 0 0, 0, none⟩)) := (hcells _ L3b.out.gt).1
  go_wp2_with (fail)
  refine (HN _ L3b.out.gt).mono ?_
  rintro e w4 ⟨Ap, cp, rfl, hR4, hw4, hf4⟩
  obtain ⟨hg4, hc4⟩ := hfl _ _ L3b.out.gt _ hw4 hf4
  have L4 := hQ (L3b.out.step hg4 hc4)
  have X4 := hQ (hc4.cell X3b.out (by decide))
  obtain ⟨g0, cap0, eg, _, _, _⟩ := Kd.qm hR4 HP.out
  obtain ⟨rfl, rfl⟩ : Ap = some ⟨g0, 0, none⟩ ∧ cp = cap0 := by injection eg with h1 h2 h3; exact ⟨h1, h3⟩
  have R4 := hQ hR4
  clear hw4 hf4 hg4 hc4 hR4 eg p0 HN hcells hfl
  go_wp2_with (fail)
  have hb5 : Below w4.heap.size w4 ((w4.alloc (.cells #[.int .i64 t, .int .i64 u, .slice (some ⟨g0, 0, none⟩) p.length cp] 141)).drew) := zl ((Below.refl _ _).alloc (Nat.le_refl _) _)
  have L5 := hQ (L4.out.below hb5)
  have X5 := hQ (zb X4.out hb5)
  have R5 := hQ (Kd.zz R4.out hb5)
  have F5 := hQ (zn (zi w4 (.cells #[.int .i64 t, .int .i64 u, .slice (some ⟨g0, 0, none⟩) p.length cp] 141)))
  obtain ⟨cs, m, gr, o, hk5, hg5, hcf5⟩ := L5.out.gt.blk
  have K5 := hQ hk5
  have HG := hQ hg5
  have CF5 := hQ hcf5
  clear hk5 hg5 hcf5 hb5
  simp only [jP, xR] at HV
  refine sq_ (ds := [13]) #[false, false, false, false, false, false, false, false, false, false, false, false, false, false] (fun w' => w'.cell? ⟨gb, 0, none⟩ = some (m) ∧ w'.cell? ⟨gb, 1, none⟩ = some (gr) ∧ w'.cell? ⟨gb, 2, none⟩ = some (.int .i64 100) ∧ w'.cell? ⟨gb, 3, none⟩ = some (.int .i64 1000) ∧ w'.cell? ⟨gb, 4, none⟩ = some (.int .i64 8) ∧ w'.cell? ⟨gb, 5, none⟩ = some (.int .i64 8) ∧ w'.cell? ⟨gb, 6, none⟩ = some (.int .i64 100000) ∧ w'.cell? ⟨gb, 7, none⟩ = some (.int .i64 500) ∧ w'.cell? ⟨gb, 8, none⟩ = some (.int .i64 2000) ∧ w'.cell? ⟨gb, 9, none⟩ = some (.int .i64 1024) ∧ w'.cell? ⟨gb, 10, none⟩ = some (.int .i64 1024) ∧ w'.cell? ⟨gb, 11, none⟩ = some (.int .u64 0) ∧ w'.cell? ⟨gb, 12, none⟩ = some (o) ∧ w'.cell? ⟨gb, 14, none⟩ = some (.pointer (some ⟨x.ss, 0, none⟩)) ∧ w'.cell? ⟨w4.heap.size, 2, none⟩ = some (.slice (some ⟨g0, 0, none⟩) p.length cp)) ⟨(yn K5.out HG.out).1, (yn K5.out HG.out).2.1, (yn K5.out HG.out).2.2.1, (yn K5.out HG.out).2.2.2.1, (yn K5.out HG.out).2.2.2.2.1, (yn K5.out HG.out).2.2.2.2.2.1, (yn K5.out HG.out).2.2.2.2.2.2.1, (yn K5.out HG.out).2.2.2.2.2.2.2.1, (yn K5.out HG.out).2.2.2.2.2.2.2.2.1, (yn K5.out HG.out).2.2.2.2.2.2.2.2.2.1, (yn K5.out HG.out).2.2.2.2.2.2.2.2.2.2.1, (yn K5.out HG.out).2.2.2.2.2.2.2.2.2.2.2.1, (yn K5.out HG.out).2.2.2.2.2.2.2.2.2.2.2.2.1, (yn K5.out HG.out).2.2.2.2.2.2.2.2.2.2.2.2.2, za F5.out 2⟩ (fun hHeld => ?_)
  refine pq_ 0 (some 62) ?_
  refine pq_ 1 (some 63) ?_
  refine pq_ 2 (some 64) ?_
  refine pq_ 4 (some 66) ?_
  refine pq_ 5 (some 67) ?_
  refine pq_ 6 (some 68) ?_
  refine pq_ 8 (some 70) ?_
  refine pq_ 9 (some 71) ?_
  refine tq_ 3 (some 65) hHeld ?_
  refine tq_ 7 (some 69) hHeld ?_
  refine tq_ 10 (some 72) hHeld ?_
  refine oq_ 11 (some 73) (fun K hK => ?_)
  refine yh Tryz.func64 (by kernel_rfl) rfl #[.pointer (some ⟨x.ss, 0, none⟩), .agg #[m, gr, .int .i64 100, .int .i64 1000, .int .i64 8, .int .i64 8, .int .i64 100000, .int .i64 500, .int .i64 2000, .int .i64 1024, .int .i64 1024, .int .u64 0, o], .int .i64 0, .slice (some ⟨g0, 0, none⟩) p.length cp] (by rfl) rfl rfl (by (try simp only [List.map_toArray, List.map_cons, List.map_nil]); first | done | rfl) ?_
  refine (HV.out _ m gr o g0 cp _ L5.out.gt.slv CF5.out R5.out).mono ?_
  rintro e w6 ⟨A6, c6, rfl, hc6, hF6, hs, hc⟩
  have L6 := hQ (L5.out.step (L5.out.gt.step hs hc) (zaO hc))
  have K6 := hQ (hc.cell K5.out (by decide))
  have F6 := hQ (hc.cell F5.out (by decide))
  have Q6 := hQ hF6
  have C6 := hQ hc6
  have S6 := hQ (show w4.heap.size < _ from zF F5.out)
  have X6 := hQ (hc.cell X5.out (by decide))
  clear hF6 hc6 hs hc
  have ff : ∀ i, w6.frozen? ⟨w4.heap.size, i, none⟩ = false := fun i => zh F6.out i
  have f2 := za F6.out 2
  refine ⟨_, rfl, ?_⟩
  refine hK.out _ _ ⟨(yn K6.out HG.out).1, (yn K6.out HG.out).2.1, (yn K6.out HG.out).2.2.1, (yn K6.out HG.out).2.2.2.1, (yn K6.out HG.out).2.2.2.2.1, (yn K6.out HG.out).2.2.2.2.2.1, (yn K6.out HG.out).2.2.2.2.2.2.1, (yn K6.out HG.out).2.2.2.2.2.2.2.1, (yn K6.out HG.out).2.2.2.2.2.2.2.2.1, (yn K6.out HG.out).2.2.2.2.2.2.2.2.2.1, (yn K6.out HG.out).2.2.2.2.2.2.2.2.2.2.1, (yn K6.out HG.out).2.2.2.2.2.2.2.2.2.2.2.1, (yn K6.out HG.out).2.2.2.2.2.2.2.2.2.2.2.2.1, (yn K6.out HG.out).2.2.2.2.2.2.2.2.2.2.2.2.2, za F6.out 2⟩ (fun hHeld => ?_)
  clear hK K
  refine nq_ ?_
  refine pq_ 12 (some 74) ?_
  refine kE (i := 13) (N := none) #[true, true, true, true, true, true, true, true, true, true, true, true, true, true] rfl rfl (by kernel_rfl) (by decide) (fun K hK => ?_)
  refine jY (w1 := ?_) (by rfl) rfl ?_ ?_
  rotate_left
  · go_simp
    rfl
  refine hK.out _ _ ?_
  clear hK K
  refine xJ (by kernel_rfl) ?_

  have L6' : xx B N' x g' gb dk n L (ja Qi 0 []) Qo w w6 w.heap.size w4.heap.size := ⟨L6.out.gt, L6.out.ch, L6.out.le, L6.out.t1, ⟨_, _, _, F6.out, by decide⟩, L6.out.n1, L4.out.ch.size⟩
  have L7 := hQ (L6'.set (j := 2) (v := .slice A6 bl.length c6) (Or.inr rfl))
  have f0 := za F6.out 0
  have f1 := za F6.out 1
  have f0 : w6.cell? ⟨w4.heap.size, 0, none⟩ = some (.int .i64 t) := f0
  have f1 : w6.cell? ⟨w4.heap.size, 1, none⟩ = some (.int .i64 u) := f1
  have hne : w.heap.size ≠ w4.heap.size := by have := zF X4.out; omega
  have X7 := hQ (show (w6.setCell ⟨w4.heap.size, 2, none⟩ (.slice A6 bl.length c6)).heap[w.heap.size]? = _ from (Below.heap_setCell w6 ⟨w4.heap.size, 2, none⟩ (.slice A6 bl.length c6) w.heap.size hne).trans X6.out)
  have Q7 := hQ (Kd.XH (kY (g := w4.heap.size) (j := 2) (u := .slice A6 bl.length c6) Q6.out S6.out))
  clear L6'
  generalize hW7 : w6.setCell ⟨w4.heap.size, 2, none⟩ (.slice A6 bl.length c6) = W7 at *
  have d0 : W7.cell? ⟨w4.heap.size, 0, none⟩ = some (.int .i64 t) := by rw [← hW7]; simp [go_sem, f0]
  have d1 : W7.cell? ⟨w4.heap.size, 1, none⟩ = some (.int .i64 u) := by rw [← hW7]; simp [go_sem, f1]
  have d2 : W7.cell? ⟨w4.heap.size, 2, none⟩ = some (.slice A6 bl.length c6) := by rw [← hW7]; simp [go_sem, f2]
  clear hW7 f0 f1 f2 ff
  go_wp2_with (fail)
  have hbl : bl.length ≤ 253 := by have := HO.out; unfold Ok at this; omega
  refine (xE.calls t u A6 c6 bl _ 0 _ Q7.out C6.out (Xl t u bl (by omega) HO.out)).mono ?_
  rintro e w8 ⟨v0, rfl, hR8, hbw⟩
  have L8 := hQ (L7.out.below hbw)
  have X8 := hQ (zb X7.out hbw)
  obtain ⟨A8, c8, hv8⟩ := Kd.yc hR8
  have hl8 : (hb t ((bl.length : Int) + 1) u ++ bl).length = 7 + bl.length := by rw [List.length_append, xM]
  rw [hl8] at hv8
  subst hv8
  have R8 := hQ hR8
  have HBL := hQ hbl
  have HL8 := hQ hl8
  clear hbw hR8 d0 d1 d2 hbl hl8
  have p0 : w8.cell? ⟨gb, 16, none⟩ = some (.pointer (some ⟨L 0 3, 0, none⟩)) := (L8.out.gt.cells.2.2 0 HC.out).2
  go_wp2_with (fail)
  have hlt := ((L7.out.gt.rg 0 HC.out).lt).2
  have hPut := jQ w8 (L 0 3) (L 0 4) 1024 (Qo 0) (L8.out.gt.rg 0 HC.out) A8 (7 + bl.length) c8 _ _ _ R8.out hlt (7 + bl.length) (by rw [HQ.out]; have := HBL.out; simp; omega)
  have ht8 : (hb t ((bl.length : Int) + 1) u ++ bl).take (7 + bl.length) = hb t ((bl.length : Int) + 1) u ++ bl := List.take_of_length_le (by rw [HL8.out]; exact Nat.le_refl _)
  rw [ht8, HQ.out, List.nil_append] at hPut
  refine hPut.mono ?_
  rintro e w9 ⟨rfl, hw9, hf9⟩
  have L9 := hQ (L8.out.step (L8.out.gt.ring HC.out hw9 hf9) (L8.out.gt.ringC HC.out hf9))
  have X9 := hQ ((L8.out.gt.ringC HC.out hf9).cell X8.out (by decide))
  clear hw9 hf9 hPut ht8 hlt p0
  obtain ⟨y0, y1, y2⟩ := kV X9.out
  have fy : ∀ i, w9.frozen? ⟨w.heap.size, i, none⟩ = false := fun i => zh X9.out i
  go_wp2
  refine bodyPost_ret (v := .agg #[.bool true, .int .i64 1, .slice none 0 0]) ?_ rfl ⟨rfl, ?_⟩
  · simp [results, Tryz.results33, go_sem, hu61, y0, y1, y2]
  · refine xx.both (b1 := w.heap.size) (b2 := w4.heap.size) ?_
    repeat (with_reducible first | exact L9.out | (refine xx.set ?_ (Or.inl rfl)))
end Go.Proofs.YtlalbohhopmpdaaGreat.Top
