/- Words and walks for TopSkew (made of the session's own texts; each part by itself). -/
import Derived.Test.YtlalbohhopmpdaaGreatZTopSkew17
set_option maxRecDepth 100000
set_option maxHeartbeats 8000000
set_option linter.unusedVariables false
set_option linter.unusedSimpArgs false
namespace Go.Proofs.YtlalbohhopmpdaaGreat.PTop
open Go.Proofs.YtlalbohhopmpdaaGreat.Tiny
open Go.RowKit Go.YW.PrintWords Go.YW.PrintLast Go.YW.PrintMore
attribute [local go_sem] yU yT xE xC xe yZ xJ xK zm zu   -- for this text's walks alone
def qD.f (k : Nat) (l0 : List Int) : Option (Int × Int × List Int × Int × Int) := (yh.f k l0).bind fun bt190 => (if bt190.2.2.2 = 0 then (if (l0.length : Int) < (wrap64 (6 + bt190.2.1)) then (some (0, 0, ([] : List Int), 0, 3)) else (if 7 ≤ (wrap64 (6 + bt190.2.1)) then (if (wrap64 (6 + bt190.2.1)) ≤ (l0.length : Int) then ((yC.f ((l0.take ((wrap64 (6 + bt190.2.1)) : Int).toNat).drop 7)).bind fun t196 => (some (bt190.1, bt190.2.2.1, t196, wrap64 (6 + bt190.2.1), 0))) else (none)) else (none))) else (some (0, 0, ([] : List Int), 0, bt190.2.2.2)))
def qD.T7 : Bool × List (List Nat × List Nat) := (true, [([], []), ([0], [0]), ([], []), ([2], [2]), ([], []), ([], []), ([4, 5], [4, 5]), ([6], [6]), ([1, 3, 7], [1, 3, 7]), ([], []), ([8, 7, 0, 1, 2, 3, 4, 5, 6, 7, 8], [8]), ([9, 10, 0, 1, 2, 3, 4, 5, 6, 7, 8, 9, 10], [9]), ([11, 0, 1, 2, 3, 4, 5, 6, 7, 8, 9, 10, 11], [])])
def qD.B7 : List Nat := [0, 1, 0, 4, 0, 0, 48, 112, 255, 0, 511, 2047, 4095]
theorem qD.tab7 : jG .any (opsOf Tryz.f130 7) = qD.T7 := by kernel_rfl
theorem qD.bits7 : jN qD.T7.2 qD.B7 = true := by kernel_rfl
theorem qD.calls (k : Nat) (A0 : Option Addr) (c0 : Nat) (l0 : List Int) (r1 : Int) (r2 : Int) (r3 : List Int) (r4 : Int) (r5 : Int) (w : World) (hr0 : Kd.C (Kd.int .u8) w A0 l0.length l0) (hc0 : l0.length ≤ c0) (h : qD.f k l0 = some (r1, r2, r3, r4, r5)) :
  Calls Tryz.prog 130 #[.slice A0 l0.length c0] w fun e w' => ∃ v2_ : Value, e = .returned (.tuple #[.agg #[.int .i64 r1, .int .i64 r2, v2_], .int .i64 r4, .int .i64 r5]) ∧ Kd.R (Kd.int .u8) 5 w' w.heap.size (fun _ => True) v2_ r3 ∧ Below w.heap.size w w' := by
 have hu141 := Tryz.underlying141
 have hu201 := Tryz.underlying201
 have HR0 := zf.mk hr0
 have HC0 := zf.mk hc0
 clear hr0 hc0
 have HB := zf.mk (Below.refl w.heap.size w)
 have H : ((yh.f k l0).bind fun bt190 => (if bt190.2.2.2 = 0 then (if (l0.length : Int) < (wrap64 (6 + bt190.2.1)) then (some (0, 0, ([] : List Int), 0, 3)) else (if 7 ≤ (wrap64 (6 + bt190.2.1)) then (if (wrap64 (6 + bt190.2.1)) ≤ (l0.length : Int) then ((yC.f ((l0.take ((wrap64 (6 + bt190.2.1)) : Int).toNat).drop 7)).bind fun t196 => (some (bt190.1, bt190.2.2.1, t196, wrap64 (6 + bt190.2.1), 0))) else (none)) else (none))) else (some (0, 0, ([] : List Int), 0, bt190.2.2.2)))) = some (r1, r2, r3, r4, r5) := h
 clear h
 replace H := Option.bind_eq_some_iff.mp H
 obtain ⟨⟨t190, t191, t192, t193⟩, A20, H⟩ := H
 replace H : (if t193 = 0 then (if (l0.length : Int) < (wrap64 (6 + t191)) then (some (0, 0, ([] : List Int), 0, 3)) else (if 7 ≤ (wrap64 (6 + t191)) then (if (wrap64 (6 + t191)) ≤ (l0.length : Int) then ((yC.f ((l0.take ((wrap64 (6 + t191)) : Int).toNat).drop 7)).bind fun t196 => (some (t190, t192, t196, wrap64 (6 + t191), 0))) else (none)) else (none))) else (some (0, 0, ([] : List Int), 0, t193))) = some (r1, r2, r3, r4, r5) := H
 have A2 := zf.mk A20
 clear A20
 by_cases c3 : t193 = 0
 ·
  rw [if_pos c3] at H
  have c3b0 : (t193 == 0) = true := beq_iff_eq.mpr c3
  have c3b1 : (t193 != 0) = false := bne_eq_false_iff_eq.mpr c3
  clear c3
  by_cases c4 : (l0.length : Int) < (wrap64 (6 + t191))
  ·
   rw [if_pos c4] at H
   have c4b0 : decide ((l0.length : Int) < (wrap64 (6 + t191))) = true := dT c4
   clear c4
   simp only [Option.some.injEq, Prod.mk.injEq] at H
   obtain ⟨rfl, rfl, rfl, rfl, rfl⟩ := H
   go_enter Tryz.func130, Tryz.ntmps130
   go_wp2_with (first | ((with_reducible refine zS (N := 2) rfl ?_); refine yt ?hg (N := 2) ?hd (cs := #[.int .i64 0, .int .i64 0, .slice none 0 0]) (t := 141) ?hr ?_; (case hd => rfl); (case hg => rfl); (case hr => first | (go_simp; done) | (go_simp; rfl)); intro gb189 hg w5 hbox hb; have BK189 := zf.mk (hbox); have GW189 := zf.mk ((by rw [hg]; exact (zq (HB.out)) : w.heap.size ≤ gb189)); have GE189 := zf.mk ((by rw [hg]; exact (zq (HB.out)) : w.heap.size ≤ gb189)); replace HB := zf.mk (zH (HB.out) hb); clear hb hbox hg) | ((with_reducible refine yg (f := 158) rfl ?_); refine xI (some 10) rfl rfl Tryz.func158 (by kernel_rfl) rfl #[.slice A0 l0.length c0] rfl (by (try simp only [List.map_toArray, List.map_cons, List.map_nil]); first | done | rfl | (simp only [List.length_drop, List.length_take]; rfl)) ?_; (with_reducible refine (yh.calls k _ _ l0 t190 t191 t192 t193 _ ?side1 ?side2 A2.out).mono ?_); (case side1 => repeat (first | exact (Kd.zz HR0.out HB.out) | (with_reducible refine Kd.yF ?_ _) | (with_reducible refine Kd.yH ?_ _) | (with_reducible refine Kd.yV ?_))); (case side2 => exact HC0.out); rintro e w6 ⟨rfl, hb⟩; refine ⟨_, rfl, ?_⟩; replace BK189 := zf.mk (zb BK189.out hb); replace HB := zf.mk (zH (HB.out) hb); (try clear hb); (try clear hi)) | ((with_reducible refine zS (N := 5) rfl ?_); refine yt ?hg (N := 5) ?hd (cs := #[.int .i64 0, .int .i64 0, .int .i64 0]) (t := 201) ?hr ?_; (case hd => rfl); (case hg => rfl); (case hr => first | (go_simp; done) | (go_simp; rfl)); intro gb194 hg w7 hbox hb; have BK194 := zf.mk (hbox); have GW194 := zf.mk ((by rw [hg]; exact (zq (HB.out)) : w.heap.size ≤ gb194)); have GE194 := zf.mk ((by rw [hg]; exact (zq (HB.out)) : w.heap.size ≤ gb194)); replace HB := zf.mk (zH (HB.out) hb); have NB189_194 := zf.mk ((by rw [hg]; exact Nat.ne_of_lt (zF (g := gb189) (o := .cells #[.int .i64 0, .int .i64 0, .slice none 0 0] 141 (0, 0)) (BK189.out)) : gb189 ≠ gb194)); have NB194_189 := zf.mk ((by rw [hg]; exact Nat.ne_of_gt (zF (g := gb189) (o := .cells #[.int .i64 0, .int .i64 0, .slice none 0 0] 141 (0, 0)) (BK189.out)) : gb194 ≠ gb189)); replace BK189 := zf.mk (zb BK189.out hb); clear hb hbox hg; have hnb8 := NB194_189.out; have hnc8 := NB189_194.out; obtain ⟨hcz9_0, hcz9_1, hcz9_2⟩ := zV BK194.out; obtain ⟨hfz9_0, hfz9_1, hfz9_2⟩ := xq BK194.out; obtain ⟨hcz10_0, hcz10_1, hcz10_2⟩ := zV BK189.out; obtain ⟨hfz10_0, hfz10_1, hfz10_2⟩ := xq BK189.out))
   refine bodyPost_ret (qV rfl _ _ gb189 141 #[.int .i64 0, .int .i64 0, .slice none 0 0] (0, 0) _ rfl (by (with_reducible repeat (first | refine zl ?_ _ | refine zo ?_ | refine zg ?_ _)); refine zO (cs := #[.int .i64 0, .int .i64 0, .slice none 0 0]) ?_ 2 _ rfl; (with_reducible repeat (first | refine zl ?_ _ | refine zo ?_ | refine zg ?_ _)); refine zO (cs := #[.int .i64 0, .int .i64 0, .slice none 0 0]) ?_ 1 _ rfl; (with_reducible repeat (first | refine zl ?_ _ | refine zo ?_ | refine zg ?_ _)); refine zO (cs := #[.int .i64 0, .int .i64 0, .slice none 0 0]) ?_ 0 _ rfl; (with_reducible repeat (first | refine zl ?_ _ | refine zo ?_ | refine zg ?_ _)); refine yJ ?_ NB189_194.out _; (with_reducible repeat (first | refine zl ?_ _ | refine zo ?_ | refine zg ?_ _)); refine yJ ?_ NB189_194.out _; (with_reducible repeat (first | refine zl ?_ _ | refine zo ?_ | refine zg ?_ _)); refine yJ ?_ NB189_194.out _; (with_reducible repeat (first | refine zl ?_ _ | refine zo ?_ | refine zg ?_ _)); exact BK189.out) Tryz.underlying141 rfl (by kernel_rfl)) rfl ?_
   exact ⟨_, by first | rfl | (simp [zD, zC] <;> rfl) | (simp [*, zD, zC] <;> rfl), by first | exact Kd.xM _ _ _ _ _ | exact Kd.N_nil _ _ _ _ _ | exact Kd.V_nil _ _ _ _ _ | exact Kd.Q_nil _ _ _ _ _ | exact Kd.S_nil _ _ _ _ _, by repeat (first | (with_reducible first | exact HB.out | apply zn | apply zt | apply zM | refine zP ?_ GE189.out | refine zP ?_ GE194.out) | exact HB.out)⟩
  ·
   rw [if_neg c4] at H
   have c4b0 : decide ((l0.length : Int) < (wrap64 (6 + t191))) = false := dF c4
   clear c4
   by_cases c11 : 7 ≤ (wrap64 (6 + t191))
   ·
    rw [if_pos c11] at H
    have c11b0 := eq_true c11
    have c11b1 : decide (7 ≤ (wrap64 (6 + t191))) = true := dT c11
    by_cases c12 : (wrap64 (6 + t191)) ≤ (l0.length : Int)
    ·
     rw [if_pos c12] at H
     have c12b0 := eq_true c12
     have c12b1 : decide ((wrap64 (6 + t191)) ≤ (l0.length : Int)) = true := dT c12
     replace H := Option.bind_eq_some_iff.mp H
     obtain ⟨t196, A130, H⟩ := H
     have A13 := zf.mk A130
     clear A130
     simp only [Option.some.injEq, Prod.mk.injEq] at H
     obtain ⟨rfl, rfl, rfl, rfl, rfl⟩ := H
     go_enter Tryz.func130, Tryz.ntmps130
     try go_wp2_with (first | ((with_reducible refine zS (N := 2) rfl ?_); refine yt ?hg (N := 2) ?hd (cs := #[.int .i64 0, .int .i64 0, .slice none 0 0]) (t := 141) ?hr ?_; (case hd => rfl); (case hg => rfl); (case hr => first | (go_simp; done) | (go_simp; rfl)); intro gb189 hg w14 hbox hb; have BK189 := zf.mk (hbox); have GW189 := zf.mk ((by rw [hg]; exact (zq (HB.out)) : w.heap.size ≤ gb189)); have GE189 := zf.mk ((by rw [hg]; exact (zq (HB.out)) : w.heap.size ≤ gb189)); replace HB := zf.mk (zH (HB.out) hb); clear hb hbox hg) | ((with_reducible refine yg (f := 158) rfl ?_); refine xI (some 10) rfl rfl Tryz.func158 (by kernel_rfl) rfl #[.slice A0 l0.length c0] rfl (by (try simp only [List.map_toArray, List.map_cons, List.map_nil]); first | done | rfl | (simp only [List.length_drop, List.length_take]; rfl)) ?_; (with_reducible refine (yh.calls k _ _ l0 t190 t191 t192 t193 _ ?side1 ?side2 A2.out).mono ?_); (case side1 => repeat (first | exact (Kd.zz HR0.out HB.out) | (with_reducible refine Kd.yF ?_ _) | (with_reducible refine Kd.yH ?_ _) | (with_reducible refine Kd.yV ?_))); (case side2 => exact HC0.out); rintro e w15 ⟨rfl, hb⟩; refine ⟨_, rfl, ?_⟩; replace BK189 := zf.mk (zb BK189.out hb); replace HB := zf.mk (zH (HB.out) hb); (try clear hb); (try clear hi)) | ((with_reducible refine zS (N := 5) rfl ?_); refine yt ?hg (N := 5) ?hd (cs := #[.int .i64 0, .int .i64 0, .int .i64 0]) (t := 201) ?hr ?_; (case hd => rfl); (case hg => rfl); (case hr => first | (go_simp; done) | (go_simp; rfl)); intro gb194 hg w16 hbox hb; have BK194 := zf.mk (hbox); have GW194 := zf.mk ((by rw [hg]; exact (zq (HB.out)) : w.heap.size ≤ gb194)); have GE194 := zf.mk ((by rw [hg]; exact (zq (HB.out)) : w.heap.size ≤ gb194)); replace HB := zf.mk (zH (HB.out) hb); have NB189_194 := zf.mk ((by rw [hg]; exact Nat.ne_of_lt (zF (g := gb189) (o := .cells #[.int .i64 0, .int .i64 0, .slice none 0 0] 141 (0, 0)) (BK189.out)) : gb189 ≠ gb194)); have NB194_189 := zf.mk ((by rw [hg]; exact Nat.ne_of_gt (zF (g := gb189) (o := .cells #[.int .i64 0, .int .i64 0, .slice none 0 0] 141 (0, 0)) (BK189.out)) : gb194 ≠ gb189)); replace BK189 := zf.mk (zb BK189.out hb); clear hb hbox hg; have hnb17 := NB194_189.out; have hnc17 := NB189_194.out; obtain ⟨hcz18_0, hcz18_1, hcz18_2⟩ := zV BK194.out; obtain ⟨hfz18_0, hfz18_1, hfz18_2⟩ := xq BK194.out))
     have n0_ : zf ((((w16.setCell ⟨gb194, 0, none⟩ (.int .i64 t190)).setCell ⟨gb194, 1, none⟩ (.int .i64 t191)).setCell ⟨gb194, 2, none⟩ (.int .i64 t192)).heap[gb189]? = some (.cells #[.int .i64 0, .int .i64 0, .slice none 0 0] 141 (0, 0))) := ⟨by (with_reducible repeat (first | refine zl ?_ _ | refine zo ?_ | refine zg ?_ _)); refine yJ ?_ NB189_194.out _; (with_reducible repeat (first | refine zl ?_ _ | refine zo ?_ | refine zg ?_ _)); refine yJ ?_ NB189_194.out _; (with_reducible repeat (first | refine zl ?_ _ | refine zo ?_ | refine zg ?_ _)); refine yJ ?_ NB189_194.out _; (with_reducible repeat (first | refine zl ?_ _ | refine zo ?_ | refine zg ?_ _)); exact BK189.out⟩
     have n1_ : zf ((((w16.setCell ⟨gb194, 0, none⟩ (.int .i64 t190)).setCell ⟨gb194, 1, none⟩ (.int .i64 t191)).setCell ⟨gb194, 2, none⟩ (.int .i64 t192)).heap[gb194]? = some (.cells #[.int .i64 t190, .int .i64 t191, .int .i64 t192] 201 (0, 0))) := ⟨by (with_reducible repeat (first | refine zl ?_ _ | refine zo ?_ | refine zg ?_ _)); refine zO (cs := #[.int .i64 t190, .int .i64 t191, .int .i64 0]) ?_ 2 _ rfl; (with_reducible repeat (first | refine zl ?_ _ | refine zo ?_ | refine zg ?_ _)); refine zO (cs := #[.int .i64 t190, .int .i64 0, .int .i64 0]) ?_ 1 _ rfl; (with_reducible repeat (first | refine zl ?_ _ | refine zo ?_ | refine zg ?_ _)); refine zO (cs := #[.int .i64 0, .int .i64 0, .int .i64 0]) ?_ 0 _ rfl; (with_reducible repeat (first | refine zl ?_ _ | refine zo ?_ | refine zg ?_ _)); exact BK194.out⟩
     have n2_ : zf (Below w.heap.size w (((w16.setCell ⟨gb194, 0, none⟩ (.int .i64 t190)).setCell ⟨gb194, 1, none⟩ (.int .i64 t191)).setCell ⟨gb194, 2, none⟩ (.int .i64 t192))) := ⟨by repeat (first | (with_reducible first | exact HB.out | apply zn | apply zt | apply zM | refine zP ?_ GE189.out | refine zP ?_ GE194.out) | exact HB.out)⟩
     (try clear BK189)
     (try clear BK194)
     (try clear HB)
     first | (rw [qE (((w16.setCell ⟨gb194, 0, none⟩ (.int .i64 t190)).setCell ⟨gb194, 1, none⟩ (.int .i64 t191)).setCell ⟨gb194, 2, none⟩ (.int .i64 t192))]; generalize hq_ : World.drewN (((w16.setCell ⟨gb194, 0, none⟩ (.int .i64 t190)).setCell ⟨gb194, 1, none⟩ (.int .i64 t191)).setCell ⟨gb194, 2, none⟩ (.int .i64 t192)) _ = w19; have m0_ : zf (w19.heap[gb189]? = some (.cells #[.int .i64 0, .int .i64 0, .slice none 0 0] 141 (0, 0))) := ⟨by rw [← hq_]; first | exact Kd.xQ n0_.out _ | exact Kd.Q_drewN n0_.out _ | exact zl n0_.out _ | exact zt n0_.out _ | exact Kd.S_drewN n0_.out _ | exact n0_.out⟩; have m1_ : zf (w19.heap[gb194]? = some (.cells #[.int .i64 t190, .int .i64 t191, .int .i64 t192] 201 (0, 0))) := ⟨by rw [← hq_]; first | exact Kd.xQ n1_.out _ | exact Kd.Q_drewN n1_.out _ | exact zl n1_.out _ | exact zt n1_.out _ | exact Kd.S_drewN n1_.out _ | exact n1_.out⟩; have m2_ : zf (Below w.heap.size w w19) := ⟨by rw [← hq_]; first | exact Kd.xQ n2_.out _ | exact Kd.Q_drewN n2_.out _ | exact zl n2_.out _ | exact zt n2_.out _ | exact Kd.S_drewN n2_.out _ | exact n2_.out⟩; clear hq_ n0_ n1_ n2_; have n0_ := m0_; have n1_ := m1_; have n2_ := m2_; clear m0_ m1_ m2_) | (generalize (((w16.setCell ⟨gb194, 0, none⟩ (.int .i64 t190)).setCell ⟨gb194, 1, none⟩ (.int .i64 t191)).setCell ⟨gb194, 2, none⟩ (.int .i64 t192)) = w19 at n0_ n1_ n2_ ⊢)
     have BK189 := n0_
     have BK194 := n1_
     have HB := n2_
     clear n0_ n1_ n2_
     have n0_ := zf.mk (zo BK189.out)
     have n1_ := zf.mk (zo BK194.out)
     have n2_ := zf.mk (zM HB.out)
     clear BK189
     clear BK194
     clear HB
     have BK189 := n0_
     have BK194 := n1_
     have HB := n2_
     clear n0_ n1_ n2_
     obtain ⟨i021, hi021, _, hsz21, _⟩ := info_parts info5
     obtain ⟨A21, hcut21, hA21, hC21⟩ := Zz (P := Tryz.prog) (Value.int .u8) 0 59 5 .i64 .i64 Tryz.underlying59 hi021 hsz21 A0 c0 l0 7 (wrap64 (6 + t191)) (by omega) (by first | omega | exact of_decide_eq_true (by first | (with_reducible assumption) | assumption)) (of_decide_eq_true (by first | (with_reducible assumption) | assumption)) HC0.out
     have HR195 := zf.mk (Kd.Za (h1 := fun _ => rfl) (hA21 _ (Kd.kM HR0.out)))
     have HC195 := zf.mk hC21
     clear hA21 hC21 hi021 hsz21
     refine Zi (n := 13) (S := fun w' => w'.cell? ⟨gb194, 0, none⟩ = some (.int .i64 t190) ∧ w'.cell? ⟨gb194, 1, none⟩ = some (.int .i64 t191) ∧ w'.cell? ⟨gb194, 2, none⟩ = some (.int .i64 t192)) (ds := []) #[false,false,false,false,false,false,false,false,false,false,false,false,false] (by kernel_rfl) rfl rfl ⟨(za BK194.out 0).trans rfl, (za BK194.out 1).trans rfl, (za BK194.out 2).trans rfl⟩ (fun hHeld => ?_); refine jO qD.tab7 qD.bits7 (fun HT_ HW_ => ?_)
     generalize w19.drew = w20 at BK189 BK194 HB HR195 hHeld ⊢
     refine pq_ 0 (some 25) ?_ (hc := yB HT_.out (by kernel_rfl))
     refine pq_ 2 (some 27) ?_ (hc := yB HT_.out (by kernel_rfl))
     refine pq_ 4 (some 29) ?_ (hc := yB HT_.out (by kernel_rfl))
     refine pq_ 5 (some 30) ?_ (hc := yB HT_.out (by kernel_rfl))
     refine pq_ 6 (some 31) ?_ (hc := yB HT_.out (by kernel_rfl))
     refine pq_ 9 (some 34) ?_ (hc := yB HT_.out (by kernel_rfl))
     refine tq_ 1 (some 26) hHeld ?_ (hc := qK HT_.out HW_.out (by kernel_rfl))
     refine tq_ 3 (some 28) hHeld ?_ (hc := qK HT_.out HW_.out (by kernel_rfl))
     refine oq_ 7 (some 32) (fun K hK => ?_) (hc := kI HT_.out (by kernel_rfl))
     refine yo Tryz.func159 (by kernel_rfl) rfl #[.slice A21 ((l0.take ((wrap64 (6 + t191)) : Int).toNat).drop 7).length (c0 - 7)] (by rfl) rfl rfl (by (try simp only [List.map_toArray, List.map_cons, List.map_nil]); first | done | (rw [show ((l0.take ((wrap64 (6 + t191)) : Int).toNat).drop 7).length = ((wrap64 (6 + t191)).toNat - 7) from (by rw [List.length_drop, List.length_take]; have h_ : ((wrap64 (6 + t191)) : Int) ≤ (l0.length : Int) := of_decide_eq_true (by first | (with_reducible assumption) | assumption); omega)] <;> rfl) | rfl | (simp only [List.length_drop, List.length_take]; rfl)) ?_
     with_reducible refine (yC.calls _ _ ((l0.take ((wrap64 (6 + t191)) : Int).toNat).drop 7) t196 _ ?side1 ?side2 A13.out).mono ?_
     (case side1 => repeat (first | exact (Kd.zz HR195.out HB.out) | (with_reducible refine Kd.yF ?_ _) | (with_reducible refine Kd.yH ?_ _) | (with_reducible refine Kd.yV ?_)))
     (case side2 => exact HC195.out)
     rintro e w22 ⟨v197, rfl, ho0, hb⟩
     refine ⟨_, rfl, ?_⟩
     have n0_ := zf.mk (Kd.zU ho0 (zq (HB.out)))
     have n1_ := zf.mk (zb BK189.out hb)
     have n2_ := zf.mk (zb BK194.out hb)
     have n3_ := zf.mk (zH (HB.out) hb)
     clear BK189
     clear BK194
     clear HB
     have HO198 := n0_
     have BK189 := n1_
     have BK194 := n2_
     have HB := n3_
     clear n0_ n1_ n2_ n3_
     (try clear hb)
     (try clear hb2)
     (try clear hk)
     (try clear hi)
     (try clear ho0)
     obtain ⟨Ao23, co23, eo23⟩ := Kd.zX HO198.out
     (first | subst eo23 | (injection eo23 with f1_ f2_ f3_; have f4_ := f1_.symm; have f5_ := f3_.symm; clear f1_ f2_ f3_; subst f4_; subst f5_))
     refine hK.out _ _ ⟨(za BK194.out 0).trans rfl, (za BK194.out 1).trans rfl, (za BK194.out 2).trans rfl⟩ (fun hHeld => ?_)
     clear hK K
     refine nq_ ?_
     refine pq_ 8 (some 33) ?_ (hc := yB HT_.out (by kernel_rfl))
     refine oq_ 10 (none) (fun K hK => ?_) (hc := kI HT_.out (by kernel_rfl))
     have hs24 : w22.cell? ⟨gb189, 0, none⟩ = some (.int .i64 0) := (za BK189.out 0).trans rfl
     have hfs24 := zh BK189.out 0
     have hns24_1 := NB194_189.out
     have hms24_1 := NB189_194.out
     have hs25 : w22.cell? ⟨gb189, 1, none⟩ = some (.int .i64 0) := (za BK189.out 1).trans rfl
     have hfs25 := zh BK189.out 1
     have hns25_1 := NB194_189.out
     have hms25_1 := NB189_194.out
     have hs26 : w22.cell? ⟨gb189, 2, none⟩ = some (.slice none 0 0) := (za BK189.out 2).trans rfl
     have hfs26 := zh BK189.out 2
     have hns26_1 := NB194_189.out
     have hms26_1 := NB189_194.out
     refine jJ (w1 := ?_) (by rfl) rfl ?_ ?_
     rotate_left
     ·
      go_simp
      rfl
     refine hK.out _ _ ⟨((cell_far (p := ⟨gb189, _, none⟩) NB194_189.out _).trans (((cell_far (p := ⟨gb189, _, none⟩) NB194_189.out _).trans (((cell_far (p := ⟨gb189, _, none⟩) NB194_189.out _).trans (hHeld.1)))))), ((cell_far (p := ⟨gb189, _, none⟩) NB194_189.out _).trans (((cell_far (p := ⟨gb189, _, none⟩) NB194_189.out _).trans (((cell_far (p := ⟨gb189, _, none⟩) NB194_189.out _).trans (hHeld.2.1)))))), ((cell_far (p := ⟨gb189, _, none⟩) NB194_189.out _).trans (((cell_far (p := ⟨gb189, _, none⟩) NB194_189.out _).trans (((cell_far (p := ⟨gb189, _, none⟩) NB194_189.out _).trans (hHeld.2.2))))))⟩ (fun hHeld => ?_)
     clear hK K
     refine pq_ 11 (some 3) ?_ (hc := yB HT_.out (by kernel_rfl))
     refine pq_ 12 (some 4) ?_ (hc := yB HT_.out (by kernel_rfl))
     refine xP (vI HT_.out (by kernel_rfl)) ?_
     try go_wp2
     refine bodyPost_ret (qV rfl _ _ gb189 141 #[.int .i64 t190, .int .i64 t192, .slice Ao23 t196.length co23] (0, 0) _ rfl (by (with_reducible repeat (first | refine zl ?_ _ | refine zo ?_ | refine zg ?_ _)); refine zO (cs := #[.int .i64 t190, .int .i64 t192, .slice none 0 0]) ?_ 2 _ rfl; (with_reducible repeat (first | refine zl ?_ _ | refine zo ?_ | refine zg ?_ _)); refine zO (cs := #[.int .i64 t190, .int .i64 0, .slice none 0 0]) ?_ 1 _ rfl; (with_reducible repeat (first | refine zl ?_ _ | refine zo ?_ | refine zg ?_ _)); refine zO (cs := #[.int .i64 0, .int .i64 0, .slice none 0 0]) ?_ 0 _ rfl; (with_reducible repeat (first | refine zl ?_ _ | refine zo ?_ | refine zg ?_ _)); exact BK189.out) Tryz.underlying141 rfl (by kernel_rfl)) rfl ?_
     exact ⟨_, by first | rfl | (simp [zD, zC] <;> rfl) | (simp [*, zD, zC] <;> rfl), Kd.yQ (Kd.rfR (Kd.rfR (Kd.rfR (Kd.Qa HO198.out BK189.out (by decide))))) (fun _ hk => trivial), by repeat (first | (with_reducible first | exact HB.out | apply zn | apply zt | apply zM | refine zP ?_ GE189.out | refine zP ?_ GE194.out) | exact HB.out)⟩
    ·
     rw [if_neg c12] at H
     exact absurd H (by simp)
   ·
    rw [if_neg c11] at H
    exact absurd H (by simp)
 ·
  rw [if_neg c3] at H
  have c3b0 : (t193 == 0) = false := beq_eq_false_iff_ne.mpr c3
  have c3b1 : (t193 != 0) = true := bne_iff_ne.mpr c3
  simp only [Option.some.injEq, Prod.mk.injEq] at H
  obtain ⟨rfl, rfl, rfl, rfl, rfl⟩ := H
  go_enter Tryz.func130, Tryz.ntmps130
  go_wp2_with (first | ((with_reducible refine zS (N := 2) rfl ?_); refine yt ?hg (N := 2) ?hd (cs := #[.int .i64 0, .int .i64 0, .slice none 0 0]) (t := 141) ?hr ?_; (case hd => rfl); (case hg => rfl); (case hr => first | (go_simp; done) | (go_simp; rfl)); intro gb189 hg w27 hbox hb; have BK189 := zf.mk (hbox); have GW189 := zf.mk ((by rw [hg]; exact (zq (HB.out)) : w.heap.size ≤ gb189)); have GE189 := zf.mk ((by rw [hg]; exact (zq (HB.out)) : w.heap.size ≤ gb189)); replace HB := zf.mk (zH (HB.out) hb); clear hb hbox hg) | ((with_reducible refine yg (f := 158) rfl ?_); refine xI (some 10) rfl rfl Tryz.func158 (by kernel_rfl) rfl #[.slice A0 l0.length c0] rfl (by (try simp only [List.map_toArray, List.map_cons, List.map_nil]); first | done | rfl | (simp only [List.length_drop, List.length_take]; rfl)) ?_; (with_reducible refine (yh.calls k _ _ l0 t190 t191 t192 t193 _ ?side1 ?side2 A2.out).mono ?_); (case side1 => repeat (first | exact (Kd.zz HR0.out HB.out) | (with_reducible refine Kd.yF ?_ _) | (with_reducible refine Kd.yH ?_ _) | (with_reducible refine Kd.yV ?_))); (case side2 => exact HC0.out); rintro e w28 ⟨rfl, hb⟩; refine ⟨_, rfl, ?_⟩; replace BK189 := zf.mk (zb BK189.out hb); replace HB := zf.mk (zH (HB.out) hb); (try clear hb); (try clear hi)) | ((with_reducible refine zS (N := 5) rfl ?_); refine yt ?hg (N := 5) ?hd (cs := #[.int .i64 0, .int .i64 0, .int .i64 0]) (t := 201) ?hr ?_; (case hd => rfl); (case hg => rfl); (case hr => first | (go_simp; done) | (go_simp; rfl)); intro gb194 hg w29 hbox hb; have BK194 := zf.mk (hbox); have GW194 := zf.mk ((by rw [hg]; exact (zq (HB.out)) : w.heap.size ≤ gb194)); have GE194 := zf.mk ((by rw [hg]; exact (zq (HB.out)) : w.heap.size ≤ gb194)); replace HB := zf.mk (zH (HB.out) hb); have NB189_194 := zf.mk ((by rw [hg]; exact Nat.ne_of_lt (zF (g := gb189) (o := .cells #[.int .i64 0, .int .i64 0, .slice none 0 0] 141 (0, 0)) (BK189.out)) : gb189 ≠ gb194)); have NB194_189 := zf.mk ((by rw [hg]; exact Nat.ne_of_gt (zF (g := gb189) (o := .cells #[.int .i64 0, .int .i64 0, .slice none 0 0] 141 (0, 0)) (BK189.out)) : gb194 ≠ gb189)); replace BK189 := zf.mk (zb BK189.out hb); clear hb hbox hg; have hnb30 := NB194_189.out; have hnc30 := NB189_194.out; obtain ⟨hcz31_0, hcz31_1, hcz31_2⟩ := zV BK194.out; obtain ⟨hfz31_0, hfz31_1, hfz31_2⟩ := xq BK194.out; obtain ⟨hcz32_0, hcz32_1, hcz32_2⟩ := zV BK189.out; obtain ⟨hfz32_0, hfz32_1, hfz32_2⟩ := xq BK189.out))
  refine bodyPost_ret (qV rfl _ _ gb189 141 #[.int .i64 0, .int .i64 0, .slice none 0 0] (0, 0) _ rfl (by (with_reducible repeat (first | refine zl ?_ _ | refine zo ?_ | refine zg ?_ _)); refine zO (cs := #[.int .i64 0, .int .i64 0, .slice none 0 0]) ?_ 2 _ rfl; (with_reducible repeat (first | refine zl ?_ _ | refine zo ?_ | refine zg ?_ _)); refine zO (cs := #[.int .i64 0, .int .i64 0, .slice none 0 0]) ?_ 1 _ rfl; (with_reducible repeat (first | refine zl ?_ _ | refine zo ?_ | refine zg ?_ _)); refine zO (cs := #[.int .i64 0, .int .i64 0, .slice none 0 0]) ?_ 0 _ rfl; (with_reducible repeat (first | refine zl ?_ _ | refine zo ?_ | refine zg ?_ _)); refine yJ ?_ NB189_194.out _; (with_reducible repeat (first | refine zl ?_ _ | refine zo ?_ | refine zg ?_ _)); refine yJ ?_ NB189_194.out _; (with_reducible repeat (first | refine zl ?_ _ | refine zo ?_ | refine zg ?_ _)); refine yJ ?_ NB189_194.out _; (with_reducible repeat (first | refine zl ?_ _ | refine zo ?_ | refine zg ?_ _)); exact BK189.out) Tryz.underlying141 rfl (by kernel_rfl)) rfl ?_
  exact ⟨_, by first | rfl | (simp [zD, zC] <;> rfl) | (simp [*, zD, zC] <;> rfl), by first | exact Kd.xM _ _ _ _ _ | exact Kd.N_nil _ _ _ _ _ | exact Kd.V_nil _ _ _ _ _ | exact Kd.Q_nil _ _ _ _ _ | exact Kd.S_nil _ _ _ _ _, by repeat (first | (with_reducible first | exact HB.out | apply zn | apply zt | apply zM | refine zP ?_ GE189.out | refine zP ?_ GE194.out) | exact HB.out)⟩
def xw.f (a0_0 : Int) (a0_1 : Int) (l0_2 : List Int) : Option (List Int × Int) := (jA.f a0_0 (wrap64 ((l0_2.length : Int) + 1)) a0_1).bind fun bt377 => (if bt377.2 = 0 then (if 0 ≤ (wrap64 (7 + (l0_2.length : Int))) then (if (wrap64 (7 + (l0_2.length : Int)) : Int).toNat ≤ 281474976710656 then ((some (List.replicate (wrap64 (7 + (l0_2.length : Int)) : Int).toNat 0 : List Int)).bind fun y381 => (if 0 < y381.length then ((some (Kd.laid y381 0 (min bt377.1.length y381.length) bt377.1 : List Int)).bind fun y384 => (if 0 ≤ (Kd.cnt bt377.1.length y384.length) then (if (Kd.cnt bt377.1.length y384.length) ≤ (y384.length : Int) then (if 0 < y384.length then (some ((Kd.laid y384 ((Kd.cnt bt377.1.length y384.length) : Int).toNat (min l0_2.length (y384.drop ((Kd.cnt bt377.1.length y384.length) : Int).toNat).length) l0_2), 0)) else (none)) else (none)) else (none))) else (none))) else (none)) else (none)) else (some (([] : List Int), bt377.2)))
def xw.T5 : Bool × List (List Nat × List Nat) := (true, [([], []), ([], []), ([], []), ([1, 2], [1, 2]), ([0, 3], [0, 3]), ([], []), ([5], [5]), ([4, 6, 3], [4, 6])])
def xw.B5 : List Nat := [0, 0, 0, 6, 15, 0, 32, 127]
theorem xw.tab5 : jG .any (opsOf Tryz.f65 5) = xw.T5 := by kernel_rfl
theorem xw.bits5 : jN xw.T5.2 xw.B5 = true := by kernel_rfl
theorem xw.calls (a0_0 : Int) (a0_1 : Int) (A0_2 : Option Addr) (c0_2 : Nat) (l0_2 : List Int) (r1 : List Int) (r2 : Int) (w : World) (hr0_2 : Kd.C (Kd.int .u8) w A0_2 l0_2.length l0_2) (hc0_2 : l0_2.length ≤ c0_2) (h : xw.f a0_0 a0_1 l0_2 = some (r1, r2)) :
  Calls Tryz.prog 65 #[.agg #[.int .i64 a0_0, .int .i64 a0_1, .slice A0_2 l0_2.length c0_2]] w fun e w' => ∃ v0_ : Value, e = .returned (.tuple #[v0_, .int .i64 r2]) ∧ Kd.R (Kd.int .u8) 5 w' w.heap.size (fun _ => True) v0_ r1 ∧ Below w.heap.size w w' := by
 have hu141 := Tryz.underlying141
 have hu201 := Tryz.underlying201
 have HR0_2 := zf.mk hr0_2
 have HC0_2 := zf.mk hc0_2
 clear hr0_2 hc0_2
 have HB := zf.mk (Below.refl w.heap.size w)
 have H : ((jA.f a0_0 (wrap64 ((l0_2.length : Int) + 1)) a0_1).bind fun bt377 => (if bt377.2 = 0 then (if 0 ≤ (wrap64 (7 + (l0_2.length : Int))) then (if (wrap64 (7 + (l0_2.length : Int)) : Int).toNat ≤ 281474976710656 then ((some (List.replicate (wrap64 (7 + (l0_2.length : Int)) : Int).toNat 0 : List Int)).bind fun y381 => (if 0 < y381.length then ((some (Kd.laid y381 0 (min bt377.1.length y381.length) bt377.1 : List Int)).bind fun y384 => (if 0 ≤ (Kd.cnt bt377.1.length y384.length) then (if (Kd.cnt bt377.1.length y384.length) ≤ (y384.length : Int) then (if 0 < y384.length then (some ((Kd.laid y384 ((Kd.cnt bt377.1.length y384.length) : Int).toNat (min l0_2.length (y384.drop ((Kd.cnt bt377.1.length y384.length) : Int).toNat).length) l0_2), 0)) else (none)) else (none)) else (none))) else (none))) else (none)) else (none)) else (some (([] : List Int), bt377.2)))) = some (r1, r2) := h
 clear h
 replace H := Option.bind_eq_some_iff.mp H
 obtain ⟨⟨t377, t380⟩, A20, H⟩ := H
 replace H : (if t380 = 0 then (if 0 ≤ (wrap64 (7 + (l0_2.length : Int))) then (if (wrap64 (7 + (l0_2.length : Int)) : Int).toNat ≤ 281474976710656 then ((some (List.replicate (wrap64 (7 + (l0_2.length : Int)) : Int).toNat 0 : List Int)).bind fun y381 => (if 0 < y381.length then ((some (Kd.laid y381 0 (min t377.length y381.length) t377 : List Int)).bind fun y384 => (if 0 ≤ (Kd.cnt t377.length y384.length) then (if (Kd.cnt t377.length y384.length) ≤ (y384.length : Int) then (if 0 < y384.length then (some ((Kd.laid y384 ((Kd.cnt t377.length y384.length) : Int).toNat (min l0_2.length (y384.drop ((Kd.cnt t377.length y384.length) : Int).toNat).length) l0_2), 0)) else (none)) else (none)) else (none))) else (none))) else (none)) else (none)) else (some (([] : List Int), t380))) = some (r1, r2) := H
 have A2 := zf.mk A20
 clear A20
 by_cases c3 : t380 = 0
 ·
  rw [if_pos c3] at H
  have c3b0 : (t380 == 0) = true := beq_iff_eq.mpr c3
  have c3b1 : (t380 != 0) = false := bne_eq_false_iff_eq.mpr c3
  clear c3
  obtain ⟨ji4, hji4⟩ : ∃ j_ : Int, (wrap64 (7 + (l0_2.length : Int))) = j_ := ⟨_, rfl⟩
  replace H : (if 0 ≤ (ji4) then (if (ji4 : Int).toNat ≤ 281474976710656 then ((some (List.replicate (ji4 : Int).toNat 0 : List Int)).bind fun y381 => (if 0 < y381.length then ((some (Kd.laid y381 0 (min t377.length y381.length) t377 : List Int)).bind fun y384 => (if 0 ≤ (Kd.cnt t377.length y384.length) then (if (Kd.cnt t377.length y384.length) ≤ (y384.length : Int) then (if 0 < y384.length then (some ((Kd.laid y384 ((Kd.cnt t377.length y384.length) : Int).toNat (min l0_2.length (y384.drop ((Kd.cnt t377.length y384.length) : Int).toNat).length) l0_2), 0)) else (none)) else (none)) else (none))) else (none))) else (none)) else (none)) = some (r1, r2) := by first | (rw [hji4] at H; exact H) | (simp only [hji4] at H ⊢; exact H)
  (try rw [hji4] at A2)
  have hji4w : (IntKind.i64.wrap (7 + (l0_2.length : Int))) = ji4 := (yX _).trans hji4
  by_cases c5 : 0 ≤ (ji4)
  ·
   rw [if_pos c5] at H
   have c5b0 := eq_true c5
   have c5b1 : decide (0 ≤ (ji4)) = true := dT c5
   clear c5
   by_cases c6 : (ji4 : Int).toNat ≤ 281474976710656
   ·
    rw [if_pos c6] at H
    have c6b0 := eq_true c6
    have c6b1 : decide ((ji4 : Int).toNat ≤ 281474976710656) = true := dT c6
    clear c6
    obtain ⟨y381, hy381⟩ : ∃ y_ : List Int, y_ = (List.replicate (ji4 : Int).toNat 0) := ⟨_, rfl⟩
    replace H : (if 0 < y381.length then ((some (Kd.laid y381 0 (min t377.length y381.length) t377 : List Int)).bind fun y384 => (if 0 ≤ (Kd.cnt t377.length y384.length) then (if (Kd.cnt t377.length y384.length) ≤ (y384.length : Int) then (if 0 < y384.length then (some ((Kd.laid y384 ((Kd.cnt t377.length y384.length) : Int).toNat (min l0_2.length (y384.drop ((Kd.cnt t377.length y384.length) : Int).toNat).length) l0_2), 0)) else (none)) else (none)) else (none))) else (none)) = some (r1, r2) := by first | (rw [hy381]; with_reducible exact H) | (have H2_ := (Option.bind_some _ _).symm.trans H; rw [hy381]; with_reducible exact H2_) | (have H2_ := (Option.bind_some _ _).symm.trans H; with_reducible exact H2_) | with_reducible exact H | (rw [hy381]; exact H) | exact H
    have Ny381 := zf.mk hy381
    clear hy381
    by_cases c7 : 0 < y381.length
    ·
     rw [if_pos c7] at H
     have c7b0 := eq_true c7
     have c7b1 : decide (0 < y381.length) = true := dT c7
     clear c7
     obtain ⟨y384, hy384⟩ : ∃ y_ : List Int, y_ = (Kd.laid y381 0 (min t377.length y381.length) t377) := ⟨_, rfl⟩
     replace H : (if 0 ≤ (Kd.cnt t377.length y384.length) then (if (Kd.cnt t377.length y384.length) ≤ (y384.length : Int) then (if 0 < y384.length then (some ((Kd.laid y384 ((Kd.cnt t377.length y384.length) : Int).toNat (min l0_2.length (y384.drop ((Kd.cnt t377.length y384.length) : Int).toNat).length) l0_2), 0)) else (none)) else (none)) else (none)) = some (r1, r2) := by first | (rw [hy384]; with_reducible exact H) | (have H2_ := (Option.bind_some _ _).symm.trans H; rw [hy384]; with_reducible exact H2_) | (have H2_ := (Option.bind_some _ _).symm.trans H; with_reducible exact H2_) | with_reducible exact H | (rw [hy384]; exact H) | exact H
     have Ny384 := zf.mk hy384
     clear hy384
     by_cases c8 : 0 ≤ (Kd.cnt t377.length y384.length)
     ·
      rw [if_pos c8] at H
      have c8b0 := eq_true c8
      have c8b1 : decide (0 ≤ (Kd.cnt t377.length y384.length)) = true := dT c8
      clear c8
      by_cases c9 : (Kd.cnt t377.length y384.length) ≤ (y384.length : Int)
      ·
       rw [if_pos c9] at H
       have c9b0 := eq_true c9
       have c9b1 : decide ((Kd.cnt t377.length y384.length) ≤ (y384.length : Int)) = true := dT c9
       clear c9
       obtain ⟨y387, hy387⟩ : ∃ y_ : List Int, y_ = (y384.drop ((Kd.cnt t377.length y384.length) : Int).toNat) := ⟨_, rfl⟩
       replace H : (if 0 < y384.length then (some ((Kd.laid y384 ((Kd.cnt t377.length y384.length) : Int).toNat (min l0_2.length y387.length) l0_2), 0)) else (none)) = some (r1, r2) := by first | (rw [hy387]; with_reducible exact H) | (have H2_ := (Option.bind_some _ _).symm.trans H; rw [hy387]; with_reducible exact H2_) | (have H2_ := (Option.bind_some _ _).symm.trans H; with_reducible exact H2_) | with_reducible exact H | (rw [hy387]; exact H) | exact H
       have Ny387 := zf.mk hy387
       clear hy387
       by_cases c10 : 0 < y384.length
       ·
        rw [if_pos c10] at H
        have c10b0 := eq_true c10
        have c10b1 : decide (0 < y384.length) = true := dT c10
        clear c10
        obtain ⟨y391, hy391⟩ : ∃ y_ : List Int, y_ = (Kd.laid y384 ((Kd.cnt t377.length y384.length) : Int).toNat (min l0_2.length y387.length) l0_2) := ⟨_, rfl⟩
        replace H : (some (y391, 0)) = some (r1, r2) := by first | (rw [hy391]; with_reducible exact H) | (have H2_ := (Option.bind_some _ _).symm.trans H; rw [hy391]; with_reducible exact H2_) | (have H2_ := (Option.bind_some _ _).symm.trans H; with_reducible exact H2_) | with_reducible exact H | (rw [hy391]; exact H) | exact H
        have Ny391 := zf.mk hy391
        clear hy391
        simp only [Option.some.injEq, Prod.mk.injEq] at H
        obtain ⟨rfl, rfl⟩ := H
        go_enter Tryz.func65, Tryz.ntmps65
        try go_wp2_with (first | ((with_reducible refine zS (N := 1) rfl ?_); refine yt ?hg (N := 1) ?hd (cs := #[.int .i64 a0_0, .int .i64 a0_1, .slice A0_2 l0_2.length c0_2]) (t := 141) ?hr ?_; (case hd => rfl); (case hg => rfl); (case hr => first | (go_simp; done) | (go_simp; rfl)); intro gb376 hg w11 hbox hb; have BK376 := zf.mk (hbox); have GW376 := zf.mk ((by rw [hg]; exact (zq (HB.out)) : w.heap.size ≤ gb376)); have GE376 := zf.mk ((by rw [hg]; exact (zq (HB.out)) : w.heap.size ≤ gb376)); replace HB := zf.mk (zH (HB.out) hb); clear hb hbox hg; obtain ⟨hcz12_0, hcz12_1, hcz12_2⟩ := zV BK376.out; obtain ⟨hfz12_0, hfz12_1, hfz12_2⟩ := xq BK376.out) | ((with_reducible refine yg (f := 109) rfl ?_); refine xI (some 17) rfl rfl Tryz.func109 (by kernel_rfl) rfl #[.agg #[.int .i64 a0_0, .int .i64 (wrap64 ((l0_2.length : Int) + 1)), .int .i64 a0_1]] rfl (by (try simp only [List.map_toArray, List.map_cons, List.map_nil]); first | done | rfl | (simp only [List.length_drop, List.length_take]; rfl)) ?_; (with_reducible refine (jA.calls a0_0 (wrap64 ((l0_2.length : Int) + 1)) a0_1 t377 t380 _ A2.out).mono ?_); rintro e w13 ⟨v378, rfl, ho0, hb⟩; refine ⟨_, rfl, ?_⟩; have HO379 := zf.mk (Kd.zU ho0 (zq (HB.out))); replace BK376 := zf.mk (zb BK376.out hb); replace HB := zf.mk (zH (HB.out) hb); (try clear hb); (try clear ho0); obtain ⟨hcz14_0, hcz14_1, hcz14_2⟩ := zV BK376.out; obtain ⟨hfz14_0, hfz14_1, hfz14_2⟩ := xq BK376.out) | ((with_reducible refine zS (N := 27) rfl ?_); refine Kd.Qr (Kd.int .u8) _ 5 rfl (N := 27) rfl 59 _ _ rfl ji4 rfl rfl Tryz.underlying59 (.int .u8 0) 1 info5 rfl (by decide) (by omega) 0 (ok := fun _ => True) (okp := fun _ => True) rfl (fun _ hk => hk) trivial (of_decide_eq_true (by first | (with_reducible assumption) | assumption)) (Nat.le_trans (Nat.mul_le_mul_right _ (of_decide_eq_true (by first | (with_reducible assumption) | assumption) : ji4.toNat ≤ 281474976710656)) (by omega)) (Below.refl _ _) (Nat.le_refl _) ?_; intro v382 w15 ho16 hb hg_ hnew_; clear hg_ hnew_; (first | rw [← Ny381.out] at ho16 | (simp only [Int.reduceToNat] at ho16; rw [← Ny381.out] at ho16)); have HO383 := zf.mk (Kd.zU (Kd.ZV ho16 (Kd.YN (HO379.out))) (zq (HB.out))); replace HO379 := zf.mk (Kd.kF (HO379.out) (Kd.kC ho16) hb); replace BK376 := zf.mk (zb BK376.out hb); replace HB := zf.mk (zH (HB.out) hb); clear hb ho16))
        have n0_ := zf.mk (Kd.jQ HO379.out)
        have n1_ := zf.mk (Kd.jQ HO383.out)
        have n2_ := zf.mk (zo BK376.out)
        have n3_ := zf.mk (zM HB.out)
        clear HO379
        clear HO383
        clear BK376
        clear HB
        have HO379 := n0_
        have HO383 := n1_
        have BK376 := n2_
        have HB := n3_
        clear n0_ n1_ n2_ n3_
        obtain ⟨Ao20, co20, eo20⟩ := Kd.zX HO383.out
        (first | subst eo20 | (injection eo20 with f1_ f2_ f3_; have f4_ := f1_.symm; have f5_ := f3_.symm; clear f1_ f2_ f3_; subst f4_; subst f5_))
        obtain ⟨Ao21, co21, eo21⟩ := Kd.zX HO379.out
        (first | subst eo21 | (injection eo21 with f1_ f2_ f3_; have f4_ := f1_.symm; have f5_ := f3_.symm; clear f1_ f2_ f3_; subst f4_; subst f5_))
        obtain ⟨go19, co19, eo19, gb19, gl19, cl19, HG19⟩ := Kd.xX HO383.out (by have hp_ : 0 < y381.length := of_decide_eq_true (by first | (with_reducible assumption) | assumption); omega)
        (first | cases eo19 | (injection eo19 with ea_ en_ ec_; (first | subst ea_ | (injection ea_ with ea_; subst ea_)); subst ec_; clear en_))
        have GB19 := zf.mk gb19
        have GG19 := zf.mk HG19
        clear gb19 gl19 HG19
        have n_ := zf.mk (Kd.yQ (ok' := (fun k_ => some k_ ≠ (.slice Ao21 t377.length co21 : Value).ownBlock)) HO383.out (fun k_ hk => by first | exact hk | exact hk.2))
        clear HO383
        have HO383 := n_
        clear n_
        refine Zi (n := 8) (S := fun w' => w'.cell? ⟨gb376, 0, none⟩ = some (.int .i64 a0_0) ∧ w'.cell? ⟨gb376, 1, none⟩ = some (.int .i64 a0_1) ∧ w'.cell? ⟨gb376, 2, none⟩ = some (.slice A0_2 l0_2.length c0_2)) (ds := []) #[false,false,false,false,false,false,false,false] (by kernel_rfl) rfl rfl ⟨(za BK376.out 0).trans rfl, (za BK376.out 1).trans rfl, (za BK376.out 2).trans rfl⟩ (fun hHeld => ?_); refine jO xw.tab5 xw.bits5 (fun HT_ HW_ => ?_)
        generalize w15.drew = w17 at HO379 HO383 BK376 HB GG19 hHeld ⊢
        refine pq_ 0 (some 28) ?_ (hc := yB HT_.out (by kernel_rfl))
        refine pq_ 1 (some 29) ?_ (hc := yB HT_.out (by kernel_rfl))
        refine pq_ 2 (some 30) ?_ (hc := yB HT_.out (by kernel_rfl))
        refine pq_ 5 (some 33) ?_ (hc := yB HT_.out (by kernel_rfl))
        refine tq_ 6 (some 34) hHeld ?_ (hc := qK HT_.out HW_.out (by kernel_rfl))
        refine oq_ 3 (some 31) (fun K hK => ?_) (hc := kI HT_.out (by kernel_rfl))
        refine Kd.vk (Kd.int .u8) (Kd.JI .u8) (w0 := w) w.heap.size (by rfl) (.tmp 29) (.tmp 30) 59 59 5 rfl Tryz.underlying59 (by kernel_rfl) (g := go19) (n := y381.length) (c := co20) 0 t377 rfl rfl (HO383.out) ?hm ?hA ?hR (HB.out) (zq (HB.out)) ?_
        (case hm => omega)
        (case hA => intro _; rw [Nat.zero_mul])
        (case hR => repeat (first | exact (Kd.zw HO379.out).2.2 | (with_reducible refine Kd.yF ?_ _) | (with_reducible refine Kd.yH ?_ _) | (with_reducible refine Kd.yV ?_)))
        intro w18 ho hb hg
        rw [← Ny384.out] at ho
        have hn_ : y381.length = y384.length := (Kd.zw ho).1
        rw [hn_] at ho ⊢
        clear hn_
        have n0_ := zf.mk (yG (g := gb376) (o := .cells #[.int .i64 a0_0, .int .i64 a0_1, .slice A0_2 l0_2.length c0_2] 141 (0, 0)) (BK376.out) hg (Kd.QH HO383.out BK376.out (by decide)))
        have n1_ := zf.mk (Kd.vF (v := (.slice (some ⟨go19, 0, none⟩) y381.length co20)) (v1 := .slice (some ⟨go19, 0, none⟩) y384.length co20) (ok := (fun _ => True)) (HO379.out) hg (.inl rfl))
        have n2_ := zf.mk (ho)
        have n3_ := zf.mk (hb)
        clear BK376
        clear HO379
        clear HO383
        clear HB
        have BK376 := n0_
        have HO379 := n1_
        have HO383 := n2_
        have HB := n3_
        clear n0_ n1_ n2_ n3_
        clear ho hb hg
        have q22 : ((Kd.cnt t377.length y384.length) : Int) ≤ ((y384.length : Int) : Int) := of_decide_eq_true (by first | (with_reducible assumption) | assumption)
        obtain ⟨i022, hi022, _, hsz22, _⟩ := info_parts info5
        have hroom22 : y384.length ≤ co20 := (Kd.zw HO383.out).2.1
        have hC22 : Kd.C (Kd.int .u8) _ (some ⟨go19, 0, none⟩) y384.length y384 := (Kd.zw HO383.out).2.2
        have q022 : (0 : Int) ≤ ((Kd.cnt t377.length y384.length) : Int) := of_decide_eq_true (by first | (with_reducible assumption) | assumption)
        have hcut22 := WG (P := Tryz.prog) 59 5 .i64 Tryz.underlying59 hi022 1 hsz22 (some ⟨go19, 0, none⟩) y384.length co20 (Kd.cnt t377.length y384.length) q022 q22
        have hr22 := Kd.QA (m := ((Kd.cnt t377.length y384.length) : Int).toNat) (c := co20) hC22 (by omega) hroom22
        obtain ⟨A22, hA22⟩ : ∃ A1, A1 = (if co20 = ((Kd.cnt t377.length y384.length) : Int).toNat then (some ⟨go19, 0, none⟩) else ((some ⟨go19, 0, none⟩) : Option Addr).map (·.add (((Kd.cnt t377.length y384.length) : Int).toNat * 1))) := ⟨_, rfl⟩
        obtain ⟨c22, hc22⟩ : ∃ c1, c1 = co20 - ((Kd.cnt t377.length y384.length) : Int).toNat := ⟨_, rfl⟩
        have hy22 : y387.length = y384.length - ((Kd.cnt t377.length y384.length) : Int).toNat := (by rw [Ny387.out, List.length_drop] <;> omega)
        rw [show (y384).drop ((Kd.cnt t377.length y384.length) : Int).toNat = y387 from Ny387.out.symm] at hr22
        replace hr22 : Kd.C (Kd.int .u8) _ A22 y387.length y387 := (by rw [hA22]; exact hr22)
        rw [← hy22, ← hA22, ← hc22] at hcut22
        have HR390 := zf.mk hr22
        have HC390 := zf.mk (show y387.length ≤ c22 from by rw [hy22, hc22]; exact Nat.sub_le_sub_right hroom22 _)
        clear hr22 hC22 hroom22 hi022 hsz22 hc22
        have KY22 := zf.mk hy22
        have KA22 := zf.mk hA22
        clear hy22 hA22
        have KL22 := zf.mk (show ((Kd.cnt t377.length y384.length) : Int).toNat ≤ y384.length from by omega)
        replace q22 := eq_true q22
        refine hK.out _ _ ⟨(za BK376.out 0).trans rfl, (za BK376.out 1).trans rfl, (za BK376.out 2).trans rfl⟩ (fun hHeld => ?_)
        clear hK K
        refine nq_ ?_
        refine pq_ 4 (some 32) ?_ (hc := yB HT_.out (by kernel_rfl))
        refine oq_ 7 (some 35) (fun K hK => ?_) (hc := kI HT_.out (by kernel_rfl))
        have hj_ : 0 ≤ ((Kd.cnt t377.length y384.length) : Int) := of_decide_eq_true (by first | (with_reducible assumption) | assumption)
        have hl_ : ((Kd.cnt t377.length y384.length) : Int) ≤ (y384.length : Int) := of_decide_eq_true (by first | (with_reducible assumption) | assumption)
        have hy1_ := KY22.out
        refine Kd.vk (Kd.int .u8) (Kd.JI .u8) (w0 := w) w.heap.size (by rfl) (.tmp 32) (.tmp 34) 59 59 5 rfl Tryz.underlying59 (by kernel_rfl) (g := go19) (n := y384.length) (c := co20) (((Kd.cnt t377.length y384.length) : Int).toNat) l0_2 rfl rfl (HO383.out) ?hm ?hA ?hR (HB.out) (zq (HB.out)) ?_
        (case hm => omega)
        (case hA => intro hp_; have ha_ := KA22.out; have hc_ := (Kd.zw HO383.out).2.1; rw [if_neg (by omega)] at ha_; rw [ha_, Option.map_some, zcN, Nat.zero_add]; first | done | rfl)
        (case hR => repeat (first | exact (Kd.zz HR0_2.out HB.out) | (with_reducible refine Kd.yF ?_ _) | (with_reducible refine Kd.yH ?_ _) | (with_reducible refine Kd.yV ?_)))
        intro w23 ho hb hg
        clear hj_ hl_ hy1_
        rw [← Ny391.out] at ho
        have hn_ : y384.length = y391.length := (Kd.zw ho).1
        rw [hn_] at ho ⊢
        clear hn_
        have n0_ := zf.mk (yG (g := gb376) (o := .cells #[.int .i64 a0_0, .int .i64 a0_1, .slice A0_2 l0_2.length c0_2] 141 (0, 0)) (BK376.out) hg (Kd.QH HO383.out BK376.out (by decide)))
        have n1_ := zf.mk (Kd.vF (v := (.slice (some ⟨go19, 0, none⟩) y384.length co20)) (v1 := .slice (some ⟨go19, 0, none⟩) y391.length co20) (ok := (fun _ => True)) (HO379.out) hg (.inl rfl))
        have n2_ := zf.mk (ho)
        have n3_ := zf.mk (hb)
        clear BK376
        clear HO379
        clear HO383
        clear HB
        have BK376 := n0_
        have HO379 := n1_
        have HO383 := n2_
        have HB := n3_
        clear n0_ n1_ n2_ n3_
        clear ho hb hg
        refine hK.out _ _ ⟨(za BK376.out 0).trans rfl, (za BK376.out 1).trans rfl, (za BK376.out 2).trans rfl⟩ (fun hHeld => ?_)
        clear hK K
        refine nq_ ?_
        refine xP (vI HT_.out (by kernel_rfl)) ?_
        try go_wp2
        go_ret2
        exact ⟨_, by first | rfl | (simp [zD, zC] <;> rfl) | (simp only [← hji4]; first | rfl | (simp [zD, zC] <;> rfl)) | (simp [*, zD, zC] <;> rfl), Kd.yQ HO383.out (fun _ hk => trivial), HB.out⟩
       ·
        rw [if_neg c10] at H
        exact absurd H (by simp)
      ·
       rw [if_neg c9] at H
       exact absurd H (by simp)
     ·
      rw [if_neg c8] at H
      exact absurd H (by simp)
    ·
     rw [if_neg c7] at H
     exact absurd H (by simp)
   ·
    rw [if_neg c6] at H
    exact absurd H (by simp)
  ·
   rw [if_neg c5] at H
   exact absurd H (by simp)
 ·
  rw [if_neg c3] at H
  have c3b0 : (t380 == 0) = false := beq_eq_false_iff_ne.mpr c3
  have c3b1 : (t380 != 0) = true := bne_iff_ne.mpr c3
  simp only [Option.some.injEq, Prod.mk.injEq] at H
  obtain ⟨rfl, rfl⟩ := H
  go_enter Tryz.func65, Tryz.ntmps65
  go_wp2_with (first | ((with_reducible refine zS (N := 1) rfl ?_); refine yt ?hg (N := 1) ?hd (cs := #[.int .i64 a0_0, .int .i64 a0_1, .slice A0_2 l0_2.length c0_2]) (t := 141) ?hr ?_; (case hd => rfl); (case hg => rfl); (case hr => first | (go_simp; done) | (go_simp; rfl)); intro gb376 hg w25 hbox hb; have BK376 := zf.mk (hbox); have GW376 := zf.mk ((by rw [hg]; exact (zq (HB.out)) : w.heap.size ≤ gb376)); have GE376 := zf.mk ((by rw [hg]; exact (zq (HB.out)) : w.heap.size ≤ gb376)); replace HB := zf.mk (zH (HB.out) hb); clear hb hbox hg; obtain ⟨hcz26_0, hcz26_1, hcz26_2⟩ := zV BK376.out; obtain ⟨hfz26_0, hfz26_1, hfz26_2⟩ := xq BK376.out) | ((with_reducible refine yg (f := 109) rfl ?_); refine xI (some 17) rfl rfl Tryz.func109 (by kernel_rfl) rfl #[.agg #[.int .i64 a0_0, .int .i64 (wrap64 ((l0_2.length : Int) + 1)), .int .i64 a0_1]] rfl (by (try simp only [List.map_toArray, List.map_cons, List.map_nil]); first | done | rfl | (simp only [List.length_drop, List.length_take]; rfl)) ?_; (with_reducible refine (jA.calls a0_0 (wrap64 ((l0_2.length : Int) + 1)) a0_1 t377 t380 _ A2.out).mono ?_); rintro e w27 ⟨v378, rfl, ho0, hb⟩; refine ⟨_, rfl, ?_⟩; have HO379 := zf.mk (Kd.zU ho0 (zq (HB.out))); replace BK376 := zf.mk (zb BK376.out hb); replace HB := zf.mk (zH (HB.out) hb); (try clear hb); (try clear ho0)))
  go_ret2
  exact ⟨_, by first | rfl | (simp [zD, zC] <;> rfl) | (simp [*, zD, zC] <;> rfl), by first | exact Kd.xM _ _ _ _ _ | exact Kd.N_nil _ _ _ _ _ | exact Kd.V_nil _ _ _ _ _ | exact Kd.Q_nil _ _ _ _ _ | exact Kd.S_nil _ _ _ _ _, HB.out⟩
def zG.f (a0 : Int) (a1 : Int) : Option (Int) := if a1 = 0 then (none) else (if (Int.tmod a0 a1) < 0 then (some (wrap64 ((Int.tmod a0 a1) + a1))) else (some (Int.tmod a0 a1)))
theorem zG.calls (a0 : Int) (a1 : Int) (r : Int) (w : World) (h : zG.f a0 a1 = some r) :
  Calls Tryz.prog 8 #[.int .i64 a0, .int .i64 a1] w fun e w' => e = .returned (.int .i64 r) ∧ zx w w' := by
 have H : (if a1 = 0 then (none) else (if (Int.tmod a0 a1) < 0 then (some (wrap64 ((Int.tmod a0 a1) + a1))) else (some (Int.tmod a0 a1)))) = some r := h
 clear h
 by_cases c3 : a1 = 0
 ·
  rw [if_pos c3] at H
  exact absurd H (by simp)
 ·
  rw [if_neg c3] at H
  have c3b0 : (a1 == 0) = false := beq_eq_false_iff_ne.mpr c3
  have c3b1 : (a1 != 0) = true := bne_iff_ne.mpr c3
  by_cases c4 : (Int.tmod a0 a1) < 0
  ·
   rw [if_pos c4] at H
   have c4b0 : decide ((Int.tmod a0 a1) < 0) = true := dT c4
   clear c4
   obtain rfl := Option.some.inj H
   go_enter Tryz.func8, Tryz.ntmps8
   go_wp2
   go_ret
   exact ⟨by first | rfl | (simp; done) | (simp [*]; done), by repeat (first | exact zx.refl _ | apply zx.step)⟩
  ·
   rw [if_neg c4] at H
   have c4b0 : decide ((Int.tmod a0 a1) < 0) = false := dF c4
   clear c4
   obtain rfl := Option.some.inj H
   go_enter Tryz.func8, Tryz.ntmps8
   go_wp2
   go_ret
   exact ⟨by first | rfl | (simp; done) | (simp [*]; done), by repeat (first | exact zx.refl _ | apply zx.step)⟩
def xc.f (a0 : Int) (a1 : Int) (a2 : Int) : Option (Int) := if a1 = 0 then (none) else ((zG.f (wrap64 (Int.tdiv a0 a1)) a2).bind fun t547 => (some t547))
theorem xc.calls (a0 : Int) (a1 : Int) (a2 : Int) (r : Int) (w : World) (h : xc.f a0 a1 a2 = some r) :
  Calls Tryz.prog 12 #[.int .i64 a0, .int .i64 a1, .int .i64 a2] w fun e w' => e = .returned (.int .i64 r) ∧ zx w w' := by
 have H : (if a1 = 0 then (none) else ((zG.f (wrap64 (Int.tdiv a0 a1)) a2).bind fun t547 => (some t547))) = some r := h
 clear h
 by_cases c4 : a1 = 0
 ·
  rw [if_pos c4] at H
  exact absurd H (by simp)
 ·
  rw [if_neg c4] at H
  have c4b0 : (a1 == 0) = false := beq_eq_false_iff_ne.mpr c4
  have c4b1 : (a1 != 0) = true := bne_iff_ne.mpr c4
  replace H := Option.bind_eq_some_iff.mp H
  obtain ⟨t547, A50, H⟩ := H
  replace H : (some t547) = some r := H
  have A5 := zf.mk A50
  clear A50
  obtain rfl := Option.some.inj H
  go_enter Tryz.func12, Tryz.ntmps12
  go_wp2_with (first | ((with_reducible refine yg (f := 8) rfl ?_); refine xI (some 11) rfl rfl Tryz.func8 (by kernel_rfl) rfl #[.int .i64 (wrap64 (Int.tdiv a0 a1)), .int .i64 a2] rfl (by (try simp only [List.map_toArray, List.map_cons, List.map_nil]); first | done | rfl | (simp only [List.length_drop, List.length_take]; rfl)) ?_; (with_reducible refine (zG.calls (wrap64 (Int.tdiv a0 a1)) a2 t547 _ A5.out).mono ?_); rintro e w' ⟨rfl, ⟨nd, rfl⟩⟩; refine ⟨_, rfl, ?_⟩))
  go_ret
  exact ⟨by first | rfl | (simp; done) | (simp [*]; done), by repeat (first | exact zx.refl _ | apply zx.step)⟩
def xV.f (a0 : Int) : Option (Bool) := if a0 ≥ 0 then (some (decide (a0 ≤ 255))) else (some false)
theorem xV.calls (a0 : Int) (r : Bool) (w : World) (h : xV.f a0 = some r) :
  Calls Tryz.prog 86 #[.int .i64 a0] w fun e w' => e = .returned (.bool r) ∧ zx w w' := by
 have H : (if a0 ≥ 0 then (some (decide (a0 ≤ 255))) else (some false)) = some r := h
 clear h
 by_cases c2 : a0 ≥ 0
 ·
  rw [if_pos c2] at H
  have c2b0 : decide (0 ≤ a0) = true := dT c2
  clear c2
  obtain rfl := Option.some.inj H
  go_enter Tryz.func86, Tryz.ntmps86
  go_wp2
  go_ret
  exact ⟨by first | rfl | (simp; done) | (simp [*]; done), by repeat (first | exact zx.refl _ | apply zx.step)⟩
 ·
  rw [if_neg c2] at H
  have c2b0 : decide (0 ≤ a0) = false := dF c2
  clear c2
  obtain rfl := Option.some.inj H
  go_enter Tryz.func86, Tryz.ntmps86
  go_wp2
  go_ret
  exact ⟨by first | rfl | (simp; done) | (simp [*]; done), by repeat (first | exact zx.refl _ | apply zx.step)⟩
def qh.f (a0 : Int) : Option (Bool) := if a0 ≥ 0 then (some (decide (a0 ≤ 65535))) else (some false)
theorem qh.calls (a0 : Int) (r : Bool) (w : World) (h : qh.f a0 = some r) :
  Calls Tryz.prog 88 #[.int .i64 a0] w fun e w' => e = .returned (.bool r) ∧ zx w w' := by
 have H : (if a0 ≥ 0 then (some (decide (a0 ≤ 65535))) else (some false)) = some r := h
 clear h
 by_cases c2 : a0 ≥ 0
 ·
  rw [if_pos c2] at H
  have c2b0 : decide (0 ≤ a0) = true := dT c2
  clear c2
  obtain rfl := Option.some.inj H
  go_enter Tryz.func88, Tryz.ntmps88
  go_wp2
  go_ret
  exact ⟨by first | rfl | (simp; done) | (simp [*]; done), by repeat (first | exact zx.refl _ | apply zx.step)⟩
 ·
  rw [if_neg c2] at H
  have c2b0 : decide (0 ≤ a0) = false := dF c2
  clear c2
  obtain rfl := Option.some.inj H
  go_enter Tryz.func88, Tryz.ntmps88
  go_wp2
  go_ret
  exact ⟨by first | rfl | (simp; done) | (simp [*]; done), by repeat (first | exact zx.refl _ | apply zx.step)⟩
def xm.f (l0 : List Int) (a1 : Int) : Option (List Int) := if ([] : List Int).length + l0.length < 140737488355328 then ((some (([] : List Int) ++ l0 : List Int)).bind fun y636 => ((some (([(IntKind.u16.wrap (Int.tdiv a1 256)) % 256, (Int.tmod a1 256) % 256] : List Int) : List Int)).bind fun y639 => (if y636.length + y639.length < 140737488355328 then (some (y636 ++ y639)) else (none)))) else (none)
theorem xm.calls (A0 : Option Addr) (c0 : Nat) (l0 : List Int) (a1 : Int) (r : List Int) (w : World) (hr0 : Kd.C (Kd.int .u8) w A0 l0.length l0) (hc0 : l0.length ≤ c0) (h : xm.f l0 a1 = some r) :
  Calls Tryz.prog 156 #[.slice A0 l0.length c0, .int .u16 a1] w fun e w' => ∃ v0_ : Value, e = .returned (v0_) ∧ Kd.R (Kd.int .u8) 5 w' w.heap.size (fun _ => True) v0_ r ∧ Below w.heap.size w w' := by
 have HR0 := zf.mk hr0
 have HC0 := zf.mk hc0
 clear hr0 hc0
 have HB := zf.mk (Below.refl w.heap.size w)
 have H : (if ([] : List Int).length + l0.length < 140737488355328 then ((some (([] : List Int) ++ l0 : List Int)).bind fun y636 => ((some (([(IntKind.u16.wrap (Int.tdiv a1 256)) % 256, (Int.tmod a1 256) % 256] : List Int) : List Int)).bind fun y639 => (if y636.length + y639.length < 140737488355328 then (some (y636 ++ y639)) else (none)))) else (none)) = some r := h
 clear h
 by_cases c3 : ([] : List Int).length + l0.length < 140737488355328
 ·
  rw [if_pos c3] at H
  have LMc3 := zf.mk c3
  clear c3
  obtain ⟨y636, hy636⟩ : ∃ y_ : List Int, y_ = (([] : List Int) ++ l0) := ⟨_, rfl⟩
  replace H : ((some (([(IntKind.u16.wrap (Int.tdiv a1 256)) % 256, (Int.tmod a1 256) % 256] : List Int) : List Int)).bind fun y639 => (if y636.length + y639.length < 140737488355328 then (some (y636 ++ y639)) else (none))) = some r := by first | (rw [hy636]; with_reducible exact H) | (have H2_ := (Option.bind_some _ _).symm.trans H; rw [hy636]; with_reducible exact H2_) | (have H2_ := (Option.bind_some _ _).symm.trans H; with_reducible exact H2_) | with_reducible exact H | (rw [hy636]; exact H) | exact H
  have Ny636 := zf.mk hy636
  clear hy636
  obtain ⟨y639, hy639⟩ : ∃ y_ : List Int, y_ = (([(IntKind.u16.wrap (Int.tdiv a1 256)) % 256, (Int.tmod a1 256) % 256] : List Int)) := ⟨_, rfl⟩
  replace H : (if y636.length + y639.length < 140737488355328 then (some (y636 ++ y639)) else (none)) = some r := by first | (rw [hy639]; with_reducible exact H) | (have H2_ := (Option.bind_some _ _).symm.trans H; rw [hy639]; with_reducible exact H2_) | (have H2_ := (Option.bind_some _ _).symm.trans H; with_reducible exact H2_) | with_reducible exact H | (rw [hy639]; exact H) | exact H
  have Ny639 := zf.mk hy639
  clear hy639
  by_cases c4 : y636.length + y639.length < 140737488355328
  ·
   rw [if_pos c4] at H
   have LMc4 := zf.mk c4
   clear c4
   obtain ⟨y642, hy642⟩ : ∃ y_ : List Int, y_ = (y636 ++ y639) := ⟨_, rfl⟩
   replace H : (some y642) = some r := by first | (rw [hy642]; with_reducible exact H) | (have H2_ := (Option.bind_some _ _).symm.trans H; rw [hy642]; with_reducible exact H2_) | (have H2_ := (Option.bind_some _ _).symm.trans H; with_reducible exact H2_) | with_reducible exact H | (rw [hy642]; exact H) | exact H
   have Ny642 := zf.mk hy642
   clear hy642
   obtain rfl := Option.some.inj H
   go_enter Tryz.func156, Tryz.ntmps156
   go_wp2_with (first | ((with_reducible refine zZ (b := .append) (xs := #[.const (.slice none 0 0), .tmp 5]) rfl ?_); at_builtin; refine Kd.yA (Kd.int .u8) (w0 := w) w.heap.size rfl (.const (.slice none 0 0)) (.tmp 5) 59 5 (.int .u8 0) 1 rfl Tryz.underlying59 info5 rfl (by decide) (by omega) (.slice none 0 0) ([] : List Int) l0 _ _ _ (fun _ => True) (fun _ => False) rfl rfl ?aO ?aR (fun _ _ h => h) (fun _ h => h.elim) ?aF ?aB ?aS ?aL ?_; (case aR => repeat (first | exact HR0.out | (with_reducible refine Kd.yF ?_ _) | (with_reducible refine Kd.yH ?_ _) | (with_reducible refine Kd.yV ?_))); (case aB => exact (HB.out)); (case aF => exact (fun _ _ => trivial)); (case aO => exact ((Kd.xM _ _ _ _ (fun _ => True)))); (case aS => exact (zq (HB.out))); (case aL => have := LMc3.out; omega); intro v637 w5 ho hb hg hat; rw [← Ny636.out] at ho; replace HB := zf.mk (hb); have HO638 := zf.mk (ho); clear ho hb hg hat) | ((with_reducible refine zS (N := 13) rfl ?_); refine Kd.kU (Kd.int .u8) _ 5 ?hg (N := 13) ?hd (xs := ([(IntKind.u16.wrap (Int.tdiv a1 256)) % 256, (Int.tmod a1 256) % 256] : List Int)) (inner := [.int .u8 ((IntKind.u16.wrap (Int.tdiv a1 256)) % 256), .int .u8 ((Int.tmod a1 256) % 256)]) (ok := fun _ => True) (okp := fun _ => True) ?hr ?hp (fun _ hk => hk) trivial (Below.refl _ _) (Nat.le_refl _) (by simp) ?_; (case hd => rfl); (case hg => rfl); (case hr => first | (go_simp; done) | (go_simp; rfl)); (case hp => exact (yK.one (show Kd.M (Kd.int .u8) _ _ _ ((IntKind.u16.wrap (Int.tdiv a1 256)) % 256) [.int .u8 ((IntKind.u16.wrap (Int.tdiv a1 256)) % 256)] from rfl) (yK.one (show Kd.M (Kd.int .u8) _ _ _ ((Int.tmod a1 256) % 256) [.int .u8 ((Int.tmod a1 256) % 256)] from rfl) (yK.none _ _)))); intro v640 w6 ho7 hb hg_ hnew_; clear hg_ hnew_; (first | rw [← Ny639.out] at ho7 | (simp only [Int.reduceToNat] at ho7; rw [← Ny639.out] at ho7)); have HO641 := zf.mk (Kd.zU (Kd.ZV ho7 (Kd.YN (HO638.out))) (zq (HB.out))); replace HO638 := zf.mk (Kd.kF (HO638.out) (Kd.kC ho7) hb); replace HB := zf.mk (zH (HB.out) hb); clear hb ho7; obtain ⟨Ao9, co9, eo9⟩ := Kd.zX HO641.out; subst eo9) | ((with_reducible refine zZ (b := .append) (xs := #[.tmp 6, .tmp 13]) rfl ?_); at_builtin; refine Kd.yA (Kd.int .u8) (w0 := w) w.heap.size rfl (.tmp 6) (.tmp 13) 59 5 (.int .u8 0) 1 rfl Tryz.underlying59 info5 rfl (by decide) (by omega) v637 y636 y639 _ _ _ (fun k_ => some k_ ≠ (.slice Ao9 y639.length co9 : Value).ownBlock) (fun _ => False) rfl rfl ?aO ?aR (fun _ _ h => h) (fun _ h => h.elim) ?aF ?aB ?aS ?aL ?_; (case aR => repeat (first | exact (Kd.zw HO641.out).2.2 | (with_reducible refine Kd.yF ?_ _) | (with_reducible refine Kd.yH ?_ _) | (with_reducible refine Kd.yV ?_))); (case aB => exact (HB.out)); (case aF => exact (fun k_ hk => Kd.fresh' (Kd.YN (HO641.out)) k_ hk)); (case aO => exact (Kd.yQ HO638.out (fun _ hk => by first | exact hk.2 | exact hk))); (case aS => exact (zq (HB.out))); (case aL => have := LMc4.out; omega); intro v643 w8 ho hb hg hat; rw [← Ny642.out] at ho; replace HO641 := zf.mk (Kd.vF (ok := (fun _ => True)) (HO641.out) hg hat); replace HB := zf.mk (hb); have HO644 := zf.mk (ho); clear HO638; clear ho hb hg hat))
   go_ret
   exact ⟨_, by first | rfl | (simp [zD, zC] <;> rfl) | (simp [*, zD, zC] <;> rfl), Kd.yQ HO644.out (fun _ hk => trivial), HB.out⟩
  ·
   rw [if_neg c4] at H
   exact absurd H (by simp)
 ·
  rw [if_neg c3] at H
  exact absurd H (by simp)
def yI.f (l0 : List Int) (a1 : Int) : Option (List Int) := (xm.f l0 (IntKind.u16.wrap (a1))).bind fun t645 => (some t645)
theorem yI.calls (A0 : Option Addr) (c0 : Nat) (l0 : List Int) (a1 : Int) (r : List Int) (w : World) (hr0 : Kd.C (Kd.int .u8) w A0 l0.length l0) (hc0 : l0.length ≤ c0) (h : yI.f l0 a1 = some r) :
  Calls Tryz.prog 118 #[.slice A0 l0.length c0, .int .i64 a1] w fun e w' => ∃ v0_ : Value, e = .returned (v0_) ∧ Kd.R (Kd.int .u8) 5 w' w.heap.size (fun _ => True) v0_ r ∧ Below w.heap.size w w' := by
 have HR0 := zf.mk hr0
 have HC0 := zf.mk hc0
 clear hr0 hc0
 have HB := zf.mk (Below.refl w.heap.size w)
 have H : ((xm.f l0 (IntKind.u16.wrap (a1))).bind fun t645 => (some t645)) = some r := h
 clear h
 replace H := Option.bind_eq_some_iff.mp H
 obtain ⟨t645, A30, H⟩ := H
 have A3 := zf.mk A30
 clear A30
 obtain rfl := Option.some.inj H
 go_enter Tryz.func118, Tryz.ntmps118
 go_wp2_with (first | ((with_reducible refine yg (f := 156) rfl ?_); refine xI (some 8) rfl rfl Tryz.func156 (by kernel_rfl) rfl #[.slice A0 l0.length c0, .int .u16 (IntKind.u16.wrap (a1))] rfl (by (try simp only [List.map_toArray, List.map_cons, List.map_nil]); first | done | rfl | (simp only [List.length_drop, List.length_take]; rfl)) ?_; (with_reducible refine (xm.calls _ _ l0 (IntKind.u16.wrap (a1)) t645 _ ?side1 ?side2 A3.out).mono ?_); (case side1 => repeat (first | exact HR0.out | (with_reducible refine Kd.yF ?_ _) | (with_reducible refine Kd.yH ?_ _) | (with_reducible refine Kd.yV ?_))); (case side2 => exact HC0.out); rintro e w4 ⟨v646, rfl, ho0, hb⟩; refine ⟨_, rfl, ?_⟩; have HO647 := zf.mk (Kd.zU ho0 (zq (HB.out))); replace HB := zf.mk (zH (HB.out) hb); (try clear hb); (try clear ho0)))
 go_ret
 exact ⟨_, by first | rfl | (simp [zD, zC] <;> rfl) | (simp [*, zD, zC] <;> rfl), by (with_reducible repeat (first | apply Kd.xO | apply Kd.xQ | apply Kd.jQ)); exact HO647.out, HB.out⟩
def yS.f (l0 : List Int) (a1 : Int) : Option (Int × Bool) := if a1 < 0 then (some (0, false)) else (if a1 > (wrap64 ((l0.length : Int) - 2)) then (some (0, false)) else (if 0 ≤ a1 then (if a1 < (l0.length : Int) then (if 0 ≤ (wrap64 (a1 + 1)) then (if (wrap64 (a1 + 1)) < (l0.length : Int) then (some (IntKind.u16.wrap ((IntKind.u16.wrap ((IntKind.u16.wrap (rd l0 a1)) * 256)) + (IntKind.u16.wrap (rd l0 (wrap64 (a1 + 1))))), true)) else (none)) else (none)) else (none)) else (none)))
theorem yS.calls (A0 : Option Addr) (c0 : Nat) (l0 : List Int) (a1 : Int) (r1 : Int) (r2 : Bool) (w : World) (hr0 : Kd.C (Kd.int .u8) w A0 l0.length l0) (hc0 : l0.length ≤ c0) (h : yS.f l0 a1 = some (r1, r2)) :
  Calls Tryz.prog 123 #[.slice A0 l0.length c0, .int .i64 a1] w fun e w' => e = .returned (.tuple #[.int .u16 r1, .bool r2]) ∧ zx w w' := by
 have HR0 := zf.mk hr0
 have HC0 := zf.mk hc0
 clear hr0 hc0
 have H : (if a1 < 0 then (some (0, false)) else (if a1 > (wrap64 ((l0.length : Int) - 2)) then (some (0, false)) else (if 0 ≤ a1 then (if a1 < (l0.length : Int) then (if 0 ≤ (wrap64 (a1 + 1)) then (if (wrap64 (a1 + 1)) < (l0.length : Int) then (some (IntKind.u16.wrap ((IntKind.u16.wrap ((IntKind.u16.wrap (rd l0 a1)) * 256)) + (IntKind.u16.wrap (rd l0 (wrap64 (a1 + 1))))), true)) else (none)) else (none)) else (none)) else (none)))) = some (r1, r2) := h
 clear h
 by_cases c3 : a1 < 0
 ·
  rw [if_pos c3] at H
  have c3b0 : decide (a1 < 0) = true := dT c3
  clear c3
  simp only [Option.some.injEq, Prod.mk.injEq] at H
  obtain ⟨rfl, rfl⟩ := H
  go_enter Tryz.func123, Tryz.ntmps123
  go_wp2
  repeat (go_quiet (fail); try go_wp2)
  go_ret2
  exact ⟨by first | rfl | (simp; done) | (simp [*]; done), by repeat (first | exact zx.refl _ | apply zx.step)⟩
 ·
  rw [if_neg c3] at H
  have c3b0 : decide (a1 < 0) = false := dF c3
  clear c3
  by_cases c4 : a1 > (wrap64 ((l0.length : Int) - 2))
  ·
   rw [if_pos c4] at H
   have c4b0 : decide ((wrap64 ((l0.length : Int) - 2)) < a1) = true := dT c4
   clear c4
   simp only [Option.some.injEq, Prod.mk.injEq] at H
   obtain ⟨rfl, rfl⟩ := H
   go_enter Tryz.func123, Tryz.ntmps123
   go_wp2
   repeat (go_quiet (fail); try go_wp2)
   go_ret2
   exact ⟨by first | rfl | (simp; done) | (simp [*]; done), by repeat (first | exact zx.refl _ | apply zx.step)⟩
  ·
   rw [if_neg c4] at H
   have c4b0 : decide ((wrap64 ((l0.length : Int) - 2)) < a1) = false := dF c4
   clear c4
   by_cases c5 : 0 ≤ a1
   ·
    rw [if_pos c5] at H
    have c5b0 : decide (0 ≤ a1) = true := dT c5
    clear c5
    by_cases c6 : a1 < (l0.length : Int)
    ·
     rw [if_pos c6] at H
     have c6b0 : decide (a1 < (l0.length : Int)) = true := dT c6
     clear c6
     obtain ⟨ji7, hji7⟩ : ∃ j_ : Int, (wrap64 (a1 + 1)) = j_ := ⟨_, rfl⟩
     replace H : (if 0 ≤ (ji7) then (if (ji7) < (l0.length : Int) then (some (IntKind.u16.wrap ((IntKind.u16.wrap ((IntKind.u16.wrap (rd l0 a1)) * 256)) + (IntKind.u16.wrap (rd l0 (ji7)))), true)) else (none)) else (none)) = some (r1, r2) := by first | (rw [hji7] at H; exact H) | (simp only [hji7] at H ⊢; exact H)
     have hji7w : (IntKind.i64.wrap (a1 + 1)) = ji7 := (yX _).trans hji7
     by_cases c8 : 0 ≤ (ji7)
     ·
      rw [if_pos c8] at H
      have c8b0 : decide (0 ≤ (ji7)) = true := dT c8
      clear c8
      by_cases c9 : (ji7) < (l0.length : Int)
      ·
       rw [if_pos c9] at H
       have c9b0 : decide ((ji7) < (l0.length : Int)) = true := dT c9
       clear c9
       simp only [Option.some.injEq, Prod.mk.injEq] at H
       obtain ⟨rfl, rfl⟩ := H
       have p790 : 0 ≤ (a1 : Int) := of_decide_eq_true (by first | (with_reducible assumption) | assumption)
       have q790 : a1 < (l0.length : Int) := of_decide_eq_true (by first | (with_reducible assumption) | assumption)
       obtain ⟨ad790, e790, hx790_0⟩ := Kd.kz HR0.out a1 p790 q790
       cases e790
       replace p790 := eq_true p790
       replace q790 := eq_true q790
       have p791 : 0 ≤ ((ji7) : Int) := of_decide_eq_true (by first | (with_reducible assumption) | assumption)
       have q791 : (ji7) < (l0.length : Int) := of_decide_eq_true (by first | (with_reducible assumption) | assumption)
       obtain ⟨ad791, e791, hx791_0⟩ := Kd.kz HR0.out (ji7) p791 q791
       obtain rfl : ad790 = ad791 := (by injection e791)
       replace p791 := eq_true p791
       replace q791 := eq_true q791
       go_enter Tryz.func123, Tryz.ntmps123
       go_wp2
       repeat (go_quiet (fail); try go_wp2)
       go_ret2
       exact ⟨by first | rfl | (simp; done) | (simp only [← hji7] <;> (first | rfl | simp)) | (simp [*]; done), by repeat (first | exact zx.refl _ | apply zx.step)⟩
      ·
       rw [if_neg c9] at H
       exact absurd H (by simp)
     ·
      rw [if_neg c8] at H
      exact absurd H (by simp)
    ·
     rw [if_neg c6] at H
     exact absurd H (by simp)
   ·
    rw [if_neg c5] at H
    exact absurd H (by simp)
def zN.f (l0 : List Int) (a1 : Int) : Option (Int) := (yS.f l0 a1).bind fun bt792 => (some (wrap64 (bt792.1)))
theorem zN.calls (A0 : Option Addr) (c0 : Nat) (l0 : List Int) (a1 : Int) (r : Int) (w : World) (hr0 : Kd.C (Kd.int .u8) w A0 l0.length l0) (hc0 : l0.length ≤ c0) (h : zN.f l0 a1 = some r) :
  Calls Tryz.prog 81 #[.slice A0 l0.length c0, .int .i64 a1] w fun e w' => e = .returned (.int .i64 r) ∧ zx w w' := by
 have HR0 := zf.mk hr0
 have HC0 := zf.mk hc0
 clear hr0 hc0
 have H : ((yS.f l0 a1).bind fun bt792 => (some (wrap64 (bt792.1)))) = some r := h
 clear h
 replace H := Option.bind_eq_some_iff.mp H
 obtain ⟨⟨t792, t793⟩, A30, H⟩ := H
 replace H : (some (wrap64 (t792))) = some r := H
 have A3 := zf.mk A30
 clear A30
 obtain rfl := Option.some.inj H
 go_enter Tryz.func81, Tryz.ntmps81
 go_wp2_with (first | ((with_reducible refine yg (f := 123) rfl ?_); refine xI (some 10) rfl rfl Tryz.func123 (by kernel_rfl) rfl #[.slice A0 l0.length c0, .int .i64 a1] rfl (by (try simp only [List.map_toArray, List.map_cons, List.map_nil]); first | done | rfl | (simp only [List.length_drop, List.length_take]; rfl)) ?_; (with_reducible refine (yS.calls _ _ l0 a1 t792 t793 _ ?side1 ?side2 A3.out).mono ?_); (case side1 => repeat (first | exact HR0.out | (with_reducible refine Kd.yF ?_ _) | (with_reducible refine Kd.yH ?_ _) | (with_reducible refine Kd.yV ?_))); (case side2 => exact HC0.out); rintro e w' ⟨rfl, ⟨nd, rfl⟩⟩; refine ⟨_, rfl, ?_⟩))
 go_ret
 exact ⟨by first | rfl | (simp; done) | (simp [*]; done), by repeat (first | exact zx.refl _ | apply zx.step)⟩
end Go.Proofs.YtlalbohhopmpdaaGreat.PTop
