/- Words and walks for TopBlind (made of the session's own texts; each part by itself). -/
import Derived.Test.YtlalbohhopmpdaaGreatZTopBlind16
set_option maxRecDepth 100000
set_option maxHeartbeats 8000000
set_option linter.unusedVariables false
set_option linter.unusedSimpArgs false
namespace Go.Proofs.YtlalbohhopmpdaaGreat.PTop
open Go.Proofs.YtlalbohhopmpdaaGreat.Tiny
open Go.RowKit Go.YW.PrintWords Go.YW.PrintLast Go.YW.PrintMore
attribute [local go_sem] yN yO xu xw yP yR xm xq zk zo   -- for this text's walks alone
attribute [local go_sem high] za9
def zX.j0 : Nat → List Int → Bool → Int → Int → Int → Option (Int × Int × Int × Int)
 | 0, _, _, _, _, _ => none
 | k + 1, x0, x42, x185000, x185001, x185002 => if x42 = true then (some (0, 0, 0, 2)) else (if (x0.length : Int) < 7 then (some (0, 0, 0, 3)) else (if 6 < (x0.length : Int) then (some (x185000, x185001, wrap64 (rd x0 6), 0)) else (none)))
def zX.f (k : Nat) (l0 : List Int) : Option (Int × Int × Int × Int) := if (l0.length : Int) < 6 then (some (0, 0, 0, 3)) else ((yZ.f l0 0).bind fun bt178 => ((yZ.f l0 2).bind fun bt180 => ((yZ.f l0 4).bind fun bt182 => (if bt180.1 = 0 then ((xQ.f (wrap64 (bt178.1)) (wrap64 (bt182.1)) 0).bind fun bt185 => (zX.j0 k l0 (!((wrap64 (bt178.1)) == bt185.1) || (!((wrap64 (bt182.1)) == bt185.2.1) || (!(0 == bt185.2.2)))) (wrap64 (bt178.1)) (wrap64 (bt182.1)) 0)) else (zX.j0 k l0 true (wrap64 (bt178.1)) (wrap64 (bt182.1)) 0)))))
def zX.T7 : Bool × List (List Nat × List Nat) := (true, [([], []), ([0], [0]), ([1], [1]), ([2], [2]), ([2], [2]), ([4, 2, 2], [2, 4]), ([3, 5, 2], [2, 3, 5]), ([2, 6], [2, 6])])
def zX.B7 : List Nat := [0, 1, 3, 7, 7, 23, 63, 127]
theorem zX.tab7 : jA .any (opsOf Tryz.f158 7) = zX.T7 := by kernel_rfl
theorem zX.bits7 : jo zX.T7.2 zX.B7 = true := by kernel_rfl
theorem zX.calls (k : Nat) (A0 : Option Addr) (c0 : Nat) (l0 : List Int) (r1 : Int) (r2 : Int) (r3 : Int) (r4 : Int) (w : World) (hr0 : Kd.C (Kd.int .u8) w A0 l0.length l0) (hc0 : l0.length ≤ c0) (h : zX.f k l0 = some (r1, r2, r3, r4)) :
  Calls Tryz.prog 158 #[.slice A0 l0.length c0] w fun e w' => e = .returned (.tuple #[.agg #[.int .i64 r1, .int .i64 r2, .int .i64 r3], .int .i64 r4]) ∧ Below w.heap.size w w' := by
 have hu201 := Tryz.underlying201
 have HR0 := ze.mk hr0
 have HC0 := ze.mk hc0
 clear hr0 hc0
 have HB := ze.mk (Below.refl w.heap.size w)
 have H : (if (l0.length : Int) < 6 then (some (0, 0, 0, 3)) else ((yZ.f l0 0).bind fun bt178 => ((yZ.f l0 2).bind fun bt180 => ((yZ.f l0 4).bind fun bt182 => (if bt180.1 = 0 then ((xQ.f (wrap64 (bt178.1)) (wrap64 (bt182.1)) 0).bind fun bt185 => (zX.j0 k l0 (!((wrap64 (bt178.1)) == bt185.1) || (!((wrap64 (bt182.1)) == bt185.2.1) || (!(0 == bt185.2.2)))) (wrap64 (bt178.1)) (wrap64 (bt182.1)) 0)) else (zX.j0 k l0 true (wrap64 (bt178.1)) (wrap64 (bt182.1)) 0)))))) = some (r1, r2, r3, r4) := h
 clear h
 by_cases c2 : (l0.length : Int) < 6
 ·
  rw [if_pos c2] at H
  have c2b0 : decide ((l0.length : Int) < 6) = true := dT c2
  have c2b1 : decide (l0.length < 6) = true := decide_eq_true (by omega)
  clear c2
  simp only [Option.some.injEq, Prod.mk.injEq] at H
  obtain ⟨rfl, rfl, rfl, rfl⟩ := H
  go_enter Tryz.func158, Tryz.ntmps158
  go_wp2_with (first | ((with_reducible refine zN (N := 2) rfl ?_); refine yf ?hg (N := 2) ?hd (cs := #[.int .i64 0, .int .i64 0, .int .i64 0]) (t := 201) ?hr ?_; (case hd => rfl); (case hg => rfl); (case hr => first | (go_simp; done) | (go_simp; rfl)); intro gb177 hg w3 hbox hb; have BK177 := ze.mk (hbox); have GW177 := ze.mk ((by rw [hg]; exact (zt (HB.out)) : w.heap.size ≤ gb177)); have GE177 := ze.mk ((by rw [hg]; exact (zt (HB.out)) : w.heap.size ≤ gb177)); replace HB := ze.mk (zG (HB.out) hb); clear hb hbox hg; obtain ⟨hcz4_0, hcz4_1, hcz4_2⟩ := zS BK177.out; obtain ⟨hfz4_0, hfz4_1, hfz4_2⟩ := xD BK177.out))
  refine bodyPost_ret (qL rfl _ _ gb177 201 #[.int .i64 0, .int .i64 0, .int .i64 0] (0, 0) _ rfl (by (with_reducible repeat (first | refine zm ?_ _ | refine zn ?_ | refine zg ?_ _)); refine zQ (cs := #[.int .i64 0, .int .i64 0, .int .i64 0]) ?_ 2 _ rfl; (with_reducible repeat (first | refine zm ?_ _ | refine zn ?_ | refine zg ?_ _)); refine zQ (cs := #[.int .i64 0, .int .i64 0, .int .i64 0]) ?_ 1 _ rfl; (with_reducible repeat (first | refine zm ?_ _ | refine zn ?_ | refine zg ?_ _)); refine zQ (cs := #[.int .i64 0, .int .i64 0, .int .i64 0]) ?_ 0 _ rfl; (with_reducible repeat (first | refine zm ?_ _ | refine zn ?_ | refine zg ?_ _)); exact BK177.out) Tryz.underlying201 rfl (by kernel_rfl)) rfl ?_
  exact ⟨by first | rfl | (simp [zC, zD] <;> rfl) | (simp [*, zC, zD] <;> rfl), by repeat (first | (with_reducible first | exact HB.out | apply zy | apply zq | apply zI | refine zM ?_ GE177.out) | exact HB.out)⟩
 ·
  rw [if_neg c2] at H
  have c2b0 : decide ((l0.length : Int) < 6) = false := dF c2
  have c2b1 : decide (l0.length < 6) = false := decide_eq_false (by omega)
  clear c2
  replace H := Option.bind_eq_some_iff.mp H
  obtain ⟨⟨t178, t179⟩, A50, H⟩ := H
  replace H : ((yZ.f l0 2).bind fun bt180 => ((yZ.f l0 4).bind fun bt182 => (if bt180.1 = 0 then ((xQ.f (wrap64 (t178)) (wrap64 (bt182.1)) 0).bind fun bt185 => (zX.j0 k l0 (!((wrap64 (t178)) == bt185.1) || (!((wrap64 (bt182.1)) == bt185.2.1) || (!(0 == bt185.2.2)))) (wrap64 (t178)) (wrap64 (bt182.1)) 0)) else (zX.j0 k l0 true (wrap64 (t178)) (wrap64 (bt182.1)) 0)))) = some (r1, r2, r3, r4) := H
  have A5 := ze.mk A50
  clear A50
  replace H := Option.bind_eq_some_iff.mp H
  obtain ⟨⟨t180, t181⟩, A60, H⟩ := H
  replace H : ((yZ.f l0 4).bind fun bt182 => (if t180 = 0 then ((xQ.f (wrap64 (t178)) (wrap64 (bt182.1)) 0).bind fun bt185 => (zX.j0 k l0 (!((wrap64 (t178)) == bt185.1) || (!((wrap64 (bt182.1)) == bt185.2.1) || (!(0 == bt185.2.2)))) (wrap64 (t178)) (wrap64 (bt182.1)) 0)) else (zX.j0 k l0 true (wrap64 (t178)) (wrap64 (bt182.1)) 0))) = some (r1, r2, r3, r4) := H
  have A6 := ze.mk A60
  clear A60
  replace H := Option.bind_eq_some_iff.mp H
  obtain ⟨⟨t182, t183⟩, A70, H⟩ := H
  replace H : (if t180 = 0 then ((xQ.f (wrap64 (t178)) (wrap64 (t182)) 0).bind fun bt185 => (zX.j0 k l0 (!((wrap64 (t178)) == bt185.1) || (!((wrap64 (t182)) == bt185.2.1) || (!(0 == bt185.2.2)))) (wrap64 (t178)) (wrap64 (t182)) 0)) else (zX.j0 k l0 true (wrap64 (t178)) (wrap64 (t182)) 0)) = some (r1, r2, r3, r4) := H
  have A7 := ze.mk A70
  clear A70
  have HC8 := ze.mk H
  clear H
  go_enter Tryz.func158, Tryz.ntmps158
  go_upto_region 7 with (first | ((with_reducible refine zN (N := 2) rfl ?_); refine yf ?hg (N := 2) ?hd (cs := #[.int .i64 0, .int .i64 0, .int .i64 0]) (t := 201) ?hr ?_; (case hd => rfl); (case hg => rfl); (case hr => first | (go_simp; done) | (go_simp; rfl)); intro gb177 hg w9 hbox hb; have BK177 := ze.mk (hbox); have GW177 := ze.mk ((by rw [hg]; exact (zt (HB.out)) : w.heap.size ≤ gb177)); have GE177 := ze.mk ((by rw [hg]; exact (zt (HB.out)) : w.heap.size ≤ gb177)); replace HB := ze.mk (zG (HB.out) hb); clear hb hbox hg) | ((with_reducible refine zO (f := 202) rfl ?_); refine yL (some 17) rfl rfl Tryz.func202 (by kernel_rfl) rfl #[.slice A0 l0.length c0, .int .i64 0] rfl (by (try simp only [List.map_toArray, List.map_cons, List.map_nil]); first | done | rfl | (simp only [List.length_drop, List.length_take]; rfl)) ?_; (with_reducible refine (yZ.calls _ _ l0 0 t178 t179 _ ?side1 ?side2 A5.out).mono ?_); (case side1 => repeat (first | exact (Kd.zx HR0.out HB.out) | (with_reducible refine Kd.yC ?_ _) | (with_reducible refine Kd.yF ?_ _) | (with_reducible refine Kd.xe ?_))); (case side2 => exact HC0.out); rintro e w' ⟨rfl, ⟨nd, rfl⟩⟩; refine ⟨_, rfl, ?_⟩; (try (rw [qR w9]; generalize hq_ : World.drewN w9 _ = w9; replace BK177 := dqK BK177 hq_; replace HB := dqB HB hq_; clear hq_))) | ((with_reducible refine zO (f := 202) rfl ?_); refine yL (some 22) rfl rfl Tryz.func202 (by kernel_rfl) rfl #[.slice A0 l0.length c0, .int .i64 2] rfl (by (try simp only [List.map_toArray, List.map_cons, List.map_nil]); first | done | rfl | (simp only [List.length_drop, List.length_take]; rfl)) ?_; (with_reducible refine (yZ.calls _ _ l0 2 t180 t181 _ ?side1 ?side2 A6.out).mono ?_); (case side1 => repeat (first | exact (Kd.zx HR0.out HB.out) | (with_reducible refine Kd.yC ?_ _) | (with_reducible refine Kd.yF ?_ _) | (with_reducible refine Kd.xe ?_))); (case side2 => exact HC0.out); rintro e w' ⟨rfl, ⟨nd, rfl⟩⟩; refine ⟨_, rfl, ?_⟩; (try (rw [qR w9]; generalize hq_ : World.drewN w9 _ = w9; replace BK177 := dqK BK177 hq_; replace HB := dqB HB hq_; clear hq_))) | ((with_reducible refine zO (f := 202) rfl ?_); refine yL (some 27) rfl rfl Tryz.func202 (by kernel_rfl) rfl #[.slice A0 l0.length c0, .int .i64 4] rfl (by (try simp only [List.map_toArray, List.map_cons, List.map_nil]); first | done | rfl | (simp only [List.length_drop, List.length_take]; rfl)) ?_; (with_reducible refine (yZ.calls _ _ l0 4 t182 t183 _ ?side1 ?side2 A7.out).mono ?_); (case side1 => repeat (first | exact (Kd.zx HR0.out HB.out) | (with_reducible refine Kd.yC ?_ _) | (with_reducible refine Kd.yF ?_ _) | (with_reducible refine Kd.xe ?_))); (case side2 => exact HC0.out); rintro e w' ⟨rfl, ⟨nd, rfl⟩⟩; refine ⟨_, rfl, ?_⟩; (try (rw [qR w9]; generalize hq_ : World.drewN w9 _ = w9; replace BK177 := dqK BK177 hq_; replace HB := dqB HB hq_; clear hq_))) | ((with_reducible refine zN (N := 10) rfl ?_); refine yf ?hg (N := 10) ?hd (cs := #[.int .i64 0, .int .i64 0, .int .i64 0]) (t := 201) ?hr ?_; (case hd => rfl); (case hg => rfl); (case hr => first | (go_simp; done) | (go_simp; rfl)); intro gb184 hg w10 hbox hb; have BK184 := ze.mk (hbox); have GW184 := ze.mk ((by rw [hg]; exact (zt (HB.out)) : w.heap.size ≤ gb184)); have GE184 := ze.mk ((by rw [hg]; exact (zt (HB.out)) : w.heap.size ≤ gb184)); replace HB := ze.mk (zG (HB.out) hb); have NB177_184 := ze.mk ((by rw [hg]; exact Nat.ne_of_lt (zF (g := gb177) (o := .cells #[.int .i64 0, .int .i64 0, .int .i64 0] 201 (0, 0)) (BK177.out)) : gb177 ≠ gb184)); have NB184_177 := ze.mk ((by rw [hg]; exact Nat.ne_of_gt (zF (g := gb177) (o := .cells #[.int .i64 0, .int .i64 0, .int .i64 0] 201 (0, 0)) (BK177.out)) : gb184 ≠ gb177)); replace BK177 := ze.mk (zb BK177.out hb); clear hb hbox hg; have hnb11 := NB184_177.out; have hnc11 := NB177_184.out; obtain ⟨hcz12_0, hcz12_1, hcz12_2⟩ := zS BK184.out; obtain ⟨hfz12_0, hfz12_1, hfz12_2⟩ := xD BK184.out))
  (try simp only [Act.put, List.setIfInBounds_toArray, List.set_cons_zero, List.set_cons_succ])
  go_cut [42] (fun v42 wc => ∃ (kq : Nat) (x42_7 : Bool), v42 = .bool x42_7 ∧ ze (zX.j0 kq l0 x42_7 (wrap64 (t178)) (wrap64 (t182)) 0 = some (r1, r2, r3, r4)) ∧ ze (kq ≤ k) ∧ ze (wc.heap[gb177]? = some (.cells #[.int .i64 0, .int .i64 0, .int .i64 0] 201 (0, 0))) ∧ ze (wc.heap[gb184]? = some (.cells #[.int .i64 (wrap64 (t178)), .int .i64 (wrap64 (t182)), .int .i64 0] 201 (0, 0))) ∧ ze (Below w.heap.size w wc))
  case first =>
   have H := HC8.out
   clear HC8
   by_cases c13 : t180 = 0
   ·
    rw [if_pos c13] at H
    have c13b0 : (t180 == 0) = true := beq_iff_eq.mpr c13
    have c13b1 : (t180 != 0) = false := bne_eq_false_iff_eq.mpr c13
    clear c13
    (first | rw [c13b0] | (simp only [xy, xV]; rw [c13b0]) | skip)
    replace H := Option.bind_eq_some_iff.mp H
    obtain ⟨⟨t185, t186, t187⟩, A140, H⟩ := H
    replace H : (zX.j0 k l0 (!((wrap64 (t178)) == t185) || (!((wrap64 (t182)) == t186) || (!(0 == t187)))) (wrap64 (t178)) (wrap64 (t182)) 0) = some (r1, r2, r3, r4) := H
    have A14 := ze.mk A140
    clear A140
    have H' := ze.mk H
    clear H
    try go_wp2
    have n0_ : ze ((((w10.setCell ⟨gb184, 0, none⟩ (.int .i64 (wrap64 (t178)))).setCell ⟨gb184, 1, none⟩ (.int .i64 (wrap64 (t182)))).setCell ⟨gb184, 2, none⟩ (.int .i64 0)).heap[gb177]? = some (.cells #[.int .i64 0, .int .i64 0, .int .i64 0] 201 (0, 0))) := ⟨by (with_reducible repeat (first | refine zm ?_ _ | refine zn ?_ | refine zg ?_ _)); refine yI ?_ NB177_184.out _; (with_reducible repeat (first | refine zm ?_ _ | refine zn ?_ | refine zg ?_ _)); refine yI ?_ NB177_184.out _; (with_reducible repeat (first | refine zm ?_ _ | refine zn ?_ | refine zg ?_ _)); refine yI ?_ NB177_184.out _; (with_reducible repeat (first | refine zm ?_ _ | refine zn ?_ | refine zg ?_ _)); exact BK177.out⟩
    have n1_ : ze ((((w10.setCell ⟨gb184, 0, none⟩ (.int .i64 (wrap64 (t178)))).setCell ⟨gb184, 1, none⟩ (.int .i64 (wrap64 (t182)))).setCell ⟨gb184, 2, none⟩ (.int .i64 0)).heap[gb184]? = some (.cells #[.int .i64 (wrap64 (t178)), .int .i64 (wrap64 (t182)), .int .i64 0] 201 (0, 0))) := ⟨by (with_reducible repeat (first | refine zm ?_ _ | refine zn ?_ | refine zg ?_ _)); refine zQ (cs := #[.int .i64 (wrap64 (t178)), .int .i64 (wrap64 (t182)), .int .i64 0]) ?_ 2 _ rfl; (with_reducible repeat (first | refine zm ?_ _ | refine zn ?_ | refine zg ?_ _)); refine zQ (cs := #[.int .i64 (wrap64 (t178)), .int .i64 0, .int .i64 0]) ?_ 1 _ rfl; (with_reducible repeat (first | refine zm ?_ _ | refine zn ?_ | refine zg ?_ _)); refine zQ (cs := #[.int .i64 0, .int .i64 0, .int .i64 0]) ?_ 0 _ rfl; (with_reducible repeat (first | refine zm ?_ _ | refine zn ?_ | refine zg ?_ _)); exact BK184.out⟩
    have n2_ : ze (Below w.heap.size w (((w10.setCell ⟨gb184, 0, none⟩ (.int .i64 (wrap64 (t178)))).setCell ⟨gb184, 1, none⟩ (.int .i64 (wrap64 (t182)))).setCell ⟨gb184, 2, none⟩ (.int .i64 0))) := ⟨by repeat (first | (with_reducible first | exact HB.out | apply zy | apply zq | apply zI | refine zM ?_ GE177.out | refine zM ?_ GE184.out) | exact HB.out)⟩
    (try clear BK177)
    (try clear BK184)
    (try clear HB)
    first | (rw [qR (((w10.setCell ⟨gb184, 0, none⟩ (.int .i64 (wrap64 (t178)))).setCell ⟨gb184, 1, none⟩ (.int .i64 (wrap64 (t182)))).setCell ⟨gb184, 2, none⟩ (.int .i64 0))]; generalize hq_ : World.drewN (((w10.setCell ⟨gb184, 0, none⟩ (.int .i64 (wrap64 (t178)))).setCell ⟨gb184, 1, none⟩ (.int .i64 (wrap64 (t182)))).setCell ⟨gb184, 2, none⟩ (.int .i64 0)) _ = w15; have m0_ : ze (w15.heap[gb177]? = some (.cells #[.int .i64 0, .int .i64 0, .int .i64 0] 201 (0, 0))) := ⟨by rw [← hq_]; first | exact Kd.qc n0_.out _ | exact Kd.Q_drewN n0_.out _ | exact zm n0_.out _ | exact zq n0_.out _ | exact Kd.S_drewN n0_.out _ | exact n0_.out⟩; have m1_ : ze (w15.heap[gb184]? = some (.cells #[.int .i64 (wrap64 (t178)), .int .i64 (wrap64 (t182)), .int .i64 0] 201 (0, 0))) := ⟨by rw [← hq_]; first | exact Kd.qc n1_.out _ | exact Kd.Q_drewN n1_.out _ | exact zm n1_.out _ | exact zq n1_.out _ | exact Kd.S_drewN n1_.out _ | exact n1_.out⟩; have m2_ : ze (Below w.heap.size w w15) := ⟨by rw [← hq_]; first | exact Kd.qc n2_.out _ | exact Kd.Q_drewN n2_.out _ | exact zm n2_.out _ | exact zq n2_.out _ | exact Kd.S_drewN n2_.out _ | exact n2_.out⟩; clear hq_ n0_ n1_ n2_; have n0_ := m0_; have n1_ := m1_; have n2_ := m2_; clear m0_ m1_ m2_) | (generalize (((w10.setCell ⟨gb184, 0, none⟩ (.int .i64 (wrap64 (t178)))).setCell ⟨gb184, 1, none⟩ (.int .i64 (wrap64 (t182)))).setCell ⟨gb184, 2, none⟩ (.int .i64 0)) = w15 at n0_ n1_ n2_ ⊢)
    have BK177 := n0_
    have BK184 := n1_
    have HB := n2_
    clear n0_ n1_ n2_
    have n0_ := ze.mk (zn BK177.out)
    have n1_ := ze.mk (zn BK184.out)
    have n2_ := ze.mk (zI HB.out)
    clear BK177
    clear BK184
    clear HB
    have BK177 := n0_
    have BK184 := n1_
    have HB := n2_
    clear n0_ n1_ n2_
    refine vv (n := 8) (S := fun w' => w'.cell? ⟨gb184, 0, none⟩ = some (.int .i64 (wrap64 (t178))) ∧ w'.cell? ⟨gb184, 1, none⟩ = some (.int .i64 (wrap64 (t182))) ∧ w'.cell? ⟨gb184, 2, none⟩ = some (.int .i64 0)) (ds := []) #[false,false,false,false,false,false,false,false] (by kernel_rfl) rfl rfl ⟨(za BK184.out 0).trans rfl, (za BK184.out 1).trans rfl, (za BK184.out 2).trans rfl⟩ (fun hHeld => ?_); refine jk zX.tab7 zX.bits7 (fun HT_ HW_ => ?_)
    generalize w15.drew = w16 at BK177 BK184 HB hHeld ⊢
    refine pq_ 0 (some 35) ?_ (hc := yo HT_.out (by kernel_rfl))
    refine pq_ 1 (some 36) ?_ (hc := yo HT_.out (by kernel_rfl))
    refine pq_ 2 (some 37) ?_ (hc := yo HT_.out (by kernel_rfl))
    refine tq_ 3 (some 38) hHeld ?_ (hc := qd HT_.out HW_.out (by kernel_rfl))
    refine tq_ 4 (some 39) hHeld ?_ (hc := qd HT_.out HW_.out (by kernel_rfl))
    refine oq_ 5 (some 40) (fun K hK => ?_) (hc := jg HT_.out (by kernel_rfl))
    refine yh Tryz.func149 (by kernel_rfl) rfl #[.agg #[.int .i64 (wrap64 (t178)), .int .i64 (wrap64 (t182)), .int .i64 0]] (by rfl) rfl rfl (by (try simp only [List.map_toArray, List.map_cons, List.map_nil]); first | done | rfl | (simp only [List.length_drop, List.length_take]; rfl)) ?_
    with_reducible refine (xQ.calls (wrap64 (t178)) (wrap64 (t182)) 0 t185 t186 t187 _ A14.out).mono ?_
    rintro e w17 ⟨rfl, hb⟩
    refine ⟨_, rfl, ?_⟩
    have n0_ := ze.mk (zb BK177.out hb)
    have n1_ := ze.mk (zb BK184.out hb)
    have n2_ := ze.mk (zG (HB.out) hb)
    clear BK177
    clear BK184
    clear HB
    have BK177 := n0_
    have BK184 := n1_
    have HB := n2_
    clear n0_ n1_ n2_
    (try clear hb)
    (try clear hb2)
    (try clear hk)
    (try clear hi)
    refine hK.out _ _ ⟨(za BK184.out 0).trans rfl, (za BK184.out 1).trans rfl, (za BK184.out 2).trans rfl⟩ (fun hHeld => ?_)
    clear hK K
    refine nq_ ?_
    refine pq_ 6 (some 41) ?_ (hc := yo HT_.out (by kernel_rfl))
    refine pq_ 7 (some 42) ?_ (hc := yo HT_.out (by kernel_rfl))
    refine xJ (vk HT_.out (by kernel_rfl)) ?_
    try go_wp2
    go_meet
    case rel => exact ⟨_, ((!((wrap64 (t178)) == t185) || (!((wrap64 (t182)) == t186) || (!(0 == t187))))), (by first | rfl | (simp; done) | (simp [*]; done)), H', ⟨by first | omega | exact Nat.le_refl _⟩, ⟨BK177.out⟩, ⟨BK184.out⟩, ⟨HB.out⟩⟩
   ·
    rw [if_neg c13] at H
    have c13b0 : (t180 == 0) = false := beq_eq_false_iff_ne.mpr c13
    have c13b1 : (t180 != 0) = true := bne_iff_ne.mpr c13
    (first | rw [c13b0] | (simp only [xy, xV]; rw [c13b0]) | skip)
    have H' := ze.mk H
    clear H
    try go_wp2
    have n0_ : ze ((((w10.setCell ⟨gb184, 0, none⟩ (.int .i64 (wrap64 (t178)))).setCell ⟨gb184, 1, none⟩ (.int .i64 (wrap64 (t182)))).setCell ⟨gb184, 2, none⟩ (.int .i64 0)).heap[gb177]? = some (.cells #[.int .i64 0, .int .i64 0, .int .i64 0] 201 (0, 0))) := ⟨by (with_reducible repeat (first | refine zm ?_ _ | refine zn ?_ | refine zg ?_ _)); refine yI ?_ NB177_184.out _; (with_reducible repeat (first | refine zm ?_ _ | refine zn ?_ | refine zg ?_ _)); refine yI ?_ NB177_184.out _; (with_reducible repeat (first | refine zm ?_ _ | refine zn ?_ | refine zg ?_ _)); refine yI ?_ NB177_184.out _; (with_reducible repeat (first | refine zm ?_ _ | refine zn ?_ | refine zg ?_ _)); exact BK177.out⟩
    have n1_ : ze ((((w10.setCell ⟨gb184, 0, none⟩ (.int .i64 (wrap64 (t178)))).setCell ⟨gb184, 1, none⟩ (.int .i64 (wrap64 (t182)))).setCell ⟨gb184, 2, none⟩ (.int .i64 0)).heap[gb184]? = some (.cells #[.int .i64 (wrap64 (t178)), .int .i64 (wrap64 (t182)), .int .i64 0] 201 (0, 0))) := ⟨by (with_reducible repeat (first | refine zm ?_ _ | refine zn ?_ | refine zg ?_ _)); refine zQ (cs := #[.int .i64 (wrap64 (t178)), .int .i64 (wrap64 (t182)), .int .i64 0]) ?_ 2 _ rfl; (with_reducible repeat (first | refine zm ?_ _ | refine zn ?_ | refine zg ?_ _)); refine zQ (cs := #[.int .i64 (wrap64 (t178)), .int .i64 0, .int .i64 0]) ?_ 1 _ rfl; (with_reducible repeat (first | refine zm ?_ _ | refine zn ?_ | refine zg ?_ _)); refine zQ (cs := #[.int .i64 0, .int .i64 0, .int .i64 0]) ?_ 0 _ rfl; (with_reducible repeat (first | refine zm ?_ _ | refine zn ?_ | refine zg ?_ _)); exact BK184.out⟩
    have n2_ : ze (Below w.heap.size w (((w10.setCell ⟨gb184, 0, none⟩ (.int .i64 (wrap64 (t178)))).setCell ⟨gb184, 1, none⟩ (.int .i64 (wrap64 (t182)))).setCell ⟨gb184, 2, none⟩ (.int .i64 0))) := ⟨by repeat (first | (with_reducible first | exact HB.out | apply zy | apply zq | apply zI | refine zM ?_ GE177.out | refine zM ?_ GE184.out) | exact HB.out)⟩
    (try clear BK177)
    (try clear BK184)
    (try clear HB)
    first | (rw [qR (((w10.setCell ⟨gb184, 0, none⟩ (.int .i64 (wrap64 (t178)))).setCell ⟨gb184, 1, none⟩ (.int .i64 (wrap64 (t182)))).setCell ⟨gb184, 2, none⟩ (.int .i64 0))]; generalize hq_ : World.drewN (((w10.setCell ⟨gb184, 0, none⟩ (.int .i64 (wrap64 (t178)))).setCell ⟨gb184, 1, none⟩ (.int .i64 (wrap64 (t182)))).setCell ⟨gb184, 2, none⟩ (.int .i64 0)) _ = w18; have m0_ : ze (w18.heap[gb177]? = some (.cells #[.int .i64 0, .int .i64 0, .int .i64 0] 201 (0, 0))) := ⟨by rw [← hq_]; first | exact Kd.qc n0_.out _ | exact Kd.Q_drewN n0_.out _ | exact zm n0_.out _ | exact zq n0_.out _ | exact Kd.S_drewN n0_.out _ | exact n0_.out⟩; have m1_ : ze (w18.heap[gb184]? = some (.cells #[.int .i64 (wrap64 (t178)), .int .i64 (wrap64 (t182)), .int .i64 0] 201 (0, 0))) := ⟨by rw [← hq_]; first | exact Kd.qc n1_.out _ | exact Kd.Q_drewN n1_.out _ | exact zm n1_.out _ | exact zq n1_.out _ | exact Kd.S_drewN n1_.out _ | exact n1_.out⟩; have m2_ : ze (Below w.heap.size w w18) := ⟨by rw [← hq_]; first | exact Kd.qc n2_.out _ | exact Kd.Q_drewN n2_.out _ | exact zm n2_.out _ | exact zq n2_.out _ | exact Kd.S_drewN n2_.out _ | exact n2_.out⟩; clear hq_ n0_ n1_ n2_; have n0_ := m0_; have n1_ := m1_; have n2_ := m2_; clear m0_ m1_ m2_) | (generalize (((w10.setCell ⟨gb184, 0, none⟩ (.int .i64 (wrap64 (t178)))).setCell ⟨gb184, 1, none⟩ (.int .i64 (wrap64 (t182)))).setCell ⟨gb184, 2, none⟩ (.int .i64 0)) = w18 at n0_ n1_ n2_ ⊢)
    have BK177 := n0_
    have BK184 := n1_
    have HB := n2_
    clear n0_ n1_ n2_
    have n0_ := ze.mk (zn BK177.out)
    have n1_ := ze.mk (zn BK184.out)
    have n2_ := ze.mk (zI HB.out)
    clear BK177
    clear BK184
    clear HB
    have BK177 := n0_
    have BK184 := n1_
    have HB := n2_
    clear n0_ n1_ n2_
    refine vv (n := 8) (S := fun w' => True) (ds := []) #[false,false,false,false,false,false,false,false] (by kernel_rfl) rfl rfl trivial (fun hHeld => ?_); refine jk zX.tab7 zX.bits7 (fun HT_ HW_ => ?_)
    generalize w18.drew = w19 at BK177 BK184 HB hHeld ⊢
    refine pq_ 0 (some 35) ?_ (hc := yo HT_.out (by kernel_rfl))
    refine pq_ 1 (some 36) ?_ (hc := yo HT_.out (by kernel_rfl))
    refine pq_ 2 (some 37) ?_ (hc := yo HT_.out (by kernel_rfl))
    refine jr (i := 3) (N := some 38) (v := undef) (a' := ?_) #[true,true,true,true,false,false,false,false] rfl rfl (yo HT_.out (by kernel_rfl)) (fun _ _ _ h => h) (Or.inr ⟨by rfl, rfl⟩) ?_ ?_
    rotate_left
    ·
     simp only [Act.put, List.setIfInBounds_toArray, List.set_cons_zero, List.set_cons_succ, xy, xV]
     rfl
    refine jr (i := 4) (N := some 39) (v := undef) (a' := ?_) #[true,true,true,true,true,false,false,false] rfl rfl (yo HT_.out (by kernel_rfl)) (fun _ _ _ h => h) (Or.inr ⟨by rfl, rfl⟩) ?_ ?_
    rotate_left
    ·
     simp only [Act.put, List.setIfInBounds_toArray, List.set_cons_zero, List.set_cons_succ, xy, xV]
     rfl
    refine jr (i := 5) (N := some 40) (v := undef) (a' := ?_) #[true,true,true,true,true,true,false,false] rfl rfl (yo HT_.out (by kernel_rfl)) (fun _ _ _ h => h) (Or.inr ⟨by rfl, rfl⟩) ?_ ?_
    rotate_left
    ·
     simp only [Act.put, List.setIfInBounds_toArray, List.set_cons_zero, List.set_cons_succ, xy, xV]
     rfl
    refine jr (i := 6) (N := some 41) (v := undef) (a' := ?_) #[true,true,true,true,true,true,true,false] rfl rfl (yo HT_.out (by kernel_rfl)) (fun _ _ _ h => h) (Or.inr ⟨by rfl, rfl⟩) ?_ ?_
    rotate_left
    ·
     simp only [Act.put, List.setIfInBounds_toArray, List.set_cons_zero, List.set_cons_succ, xy, xV]
     rfl
    refine pq_ 7 (some 42) ?_ (hc := yo HT_.out (by kernel_rfl))
    refine xJ (vk HT_.out (by kernel_rfl)) ?_
    try go_wp2
    go_meet
    case rel => exact ⟨_, (true), (by first | rfl | (simp; done) | (simp [*]; done)), H', ⟨by first | omega | exact Nat.le_refl _⟩, ⟨BK177.out⟩, ⟨BK184.out⟩, ⟨HB.out⟩⟩
  case rest =>
   clear HC8
   (try clear c2b0); (try clear c2b1); (try clear hcz12_0); (try clear hcz12_1); (try clear hcz12_2); (try clear hfz12_0); (try clear hfz12_1); (try clear hfz12_2); (try clear hfz4_2)
   obtain ⟨kq, x42_7, rfl, HA, HJ7, BK177, BK184, HB⟩ := hcut
   cases kq with
   | zero => exact absurd HA.out (by simp [zX.j0])
   | succ kj7 =>
    have H := HA.out
    clear HA
    simp only [zX.j0] at H
    by_cases c20 : x42_7 = true
    ·
     subst c20
     have H1 : (some (0, 0, 0, 2)) = some (r1, r2, r3, r4) := by rw [if_pos rfl] at H; exact H
     clear H
     have H := H1
     clear H1
     simp only [Option.some.injEq, Prod.mk.injEq] at H
     obtain ⟨rfl, rfl, rfl, rfl⟩ := H
     have hnb21 := NB177_184.out
     have hnc21 := NB184_177.out
     obtain ⟨hcz22_0, hcz22_1, hcz22_2⟩ := zS BK177.out
     obtain ⟨hfz22_0, hfz22_1, hfz22_2⟩ := xD BK177.out
     go_wp2
     refine bodyPost_ret (qL rfl _ _ gb177 201 #[.int .i64 0, .int .i64 0, .int .i64 0] (0, 0) _ rfl (by (with_reducible repeat (first | refine zm ?_ _ | refine zn ?_ | refine zg ?_ _)); refine zQ (cs := #[.int .i64 0, .int .i64 0, .int .i64 0]) ?_ 2 _ rfl; (with_reducible repeat (first | refine zm ?_ _ | refine zn ?_ | refine zg ?_ _)); refine zQ (cs := #[.int .i64 0, .int .i64 0, .int .i64 0]) ?_ 1 _ rfl; (with_reducible repeat (first | refine zm ?_ _ | refine zn ?_ | refine zg ?_ _)); refine zQ (cs := #[.int .i64 0, .int .i64 0, .int .i64 0]) ?_ 0 _ rfl; (with_reducible repeat (first | refine zm ?_ _ | refine zn ?_ | refine zg ?_ _)); exact BK177.out) Tryz.underlying201 rfl (by kernel_rfl)) rfl ?_
     exact ⟨by first | rfl | (simp [zC, zD] <;> rfl) | (simp [*, zC, zD] <;> rfl), by repeat (first | (with_reducible first | exact HB.out | apply zy | apply zq | apply zI | refine zM ?_ GE177.out | refine zM ?_ GE184.out) | exact HB.out)⟩
    ·
     replace c20 := Bool.eq_false_iff.mpr c20
     subst c20
     have H1 : (if (l0.length : Int) < 7 then (some (0, 0, 0, 3)) else (if 6 < (l0.length : Int) then (some ((wrap64 (t178)), (wrap64 (t182)), wrap64 (rd l0 6), 0)) else (none))) = some (r1, r2, r3, r4) := by rw [if_neg (show ¬ (false = true) by decide)] at H; exact H
     clear H
     have H := H1
     clear H1
     by_cases c23 : (l0.length : Int) < 7
     ·
      rw [if_pos c23] at H
      have c23b0 : decide ((l0.length : Int) < 7) = true := dT c23
      have c23b1 : decide (l0.length < 7) = true := decide_eq_true (by omega)
      clear c23
      simp only [Option.some.injEq, Prod.mk.injEq] at H
      obtain ⟨rfl, rfl, rfl, rfl⟩ := H
      have hnb24 := NB177_184.out
      have hnc24 := NB184_177.out
      obtain ⟨hcz25_0, hcz25_1, hcz25_2⟩ := zS BK177.out
      obtain ⟨hfz25_0, hfz25_1, hfz25_2⟩ := xD BK177.out
      go_wp2
      refine bodyPost_ret (qL rfl _ _ gb177 201 #[.int .i64 0, .int .i64 0, .int .i64 0] (0, 0) _ rfl (by (with_reducible repeat (first | refine zm ?_ _ | refine zn ?_ | refine zg ?_ _)); refine zQ (cs := #[.int .i64 0, .int .i64 0, .int .i64 0]) ?_ 2 _ rfl; (with_reducible repeat (first | refine zm ?_ _ | refine zn ?_ | refine zg ?_ _)); refine zQ (cs := #[.int .i64 0, .int .i64 0, .int .i64 0]) ?_ 1 _ rfl; (with_reducible repeat (first | refine zm ?_ _ | refine zn ?_ | refine zg ?_ _)); refine zQ (cs := #[.int .i64 0, .int .i64 0, .int .i64 0]) ?_ 0 _ rfl; (with_reducible repeat (first | refine zm ?_ _ | refine zn ?_ | refine zg ?_ _)); exact BK177.out) Tryz.underlying201 rfl (by kernel_rfl)) rfl ?_
      exact ⟨by first | rfl | (simp [zC, zD] <;> rfl) | (simp [*, zC, zD] <;> rfl), by repeat (first | (with_reducible first | exact HB.out | apply zy | apply zq | apply zI | refine zM ?_ GE177.out | refine zM ?_ GE184.out) | exact HB.out)⟩
     ·
      rw [if_neg c23] at H
      have c23b0 : decide ((l0.length : Int) < 7) = false := dF c23
      have c23b1 : decide (l0.length < 7) = false := decide_eq_false (by omega)
      clear c23
      by_cases c26 : 6 < (l0.length : Int)
      ·
       rw [if_pos c26] at H
       have c26b0 : decide (6 < (l0.length : Int)) = true := dT c26
       have c26b1 : decide (6 < l0.length) = true := decide_eq_true (by omega)
       clear c26
       simp only [Option.some.injEq, Prod.mk.injEq] at H
       obtain ⟨rfl, rfl, rfl, rfl⟩ := H
       have p188 : 0 ≤ (6 : Int) := (by omega)
       have q188 : 6 < (l0.length : Int) := of_decide_eq_true (by first | (with_reducible assumption) | assumption)
       obtain ⟨ad188, e188, hx188_0⟩ := Kd.qH HR0.out 6 p188 q188
       cases e188
       (try simp only [show (6 : Int).toNat = 6 from rfl, Nat.reduceMul, Nat.reduceEqDiff, Go.Addr.add, ↓reduceIte] at hx188_0)
       have qi188 : (6 < l0.length) = True := eq_true (by omega)
       (try rw [show ((6 : Int)).toNat = 6 from rfl] at hx188_0)
       replace hx188_0 := (HB.out.cell (World.block_lt_of_cell? w _ hx188_0)).trans hx188_0
       replace p188 := eq_true p188
       replace q188 := eq_true q188
       have hnb27 := NB184_177.out
       have hnc27 := NB177_184.out
       obtain ⟨hcz28_0, hcz28_1, hcz28_2⟩ := zS BK184.out
       obtain ⟨hfz28_0, hfz28_1, hfz28_2⟩ := xD BK184.out
       obtain ⟨hcz29_0, hcz29_1, hcz29_2⟩ := zS BK177.out
       obtain ⟨hfz29_0, hfz29_1, hfz29_2⟩ := xD BK177.out
       go_wp2
       refine bodyPost_ret (qL rfl _ _ gb177 201 #[.int .i64 (wrap64 (t178)), .int .i64 (wrap64 (t182)), .int .i64 (wrap64 (rd l0 6))] (0, 0) _ rfl (by (with_reducible repeat (first | refine zm ?_ _ | refine zn ?_ | refine zg ?_ _)); refine zQ (cs := #[.int .i64 (wrap64 (t178)), .int .i64 (wrap64 (t182)), .int .i64 0]) ?_ 2 _ rfl; (with_reducible repeat (first | refine zm ?_ _ | refine zn ?_ | refine zg ?_ _)); refine zQ (cs := #[.int .i64 (wrap64 (t178)), .int .i64 0, .int .i64 0]) ?_ 1 _ rfl; (with_reducible repeat (first | refine zm ?_ _ | refine zn ?_ | refine zg ?_ _)); refine zQ (cs := #[.int .i64 0, .int .i64 0, .int .i64 0]) ?_ 0 _ rfl; (with_reducible repeat (first | refine zm ?_ _ | refine zn ?_ | refine zg ?_ _)); refine yI ?_ NB177_184.out _; (with_reducible repeat (first | refine zm ?_ _ | refine zn ?_ | refine zg ?_ _)); exact BK177.out) Tryz.underlying201 rfl (by kernel_rfl)) rfl ?_
       exact ⟨by first | rfl | (simp [zC, zD] <;> rfl) | (simp [*, zC, zD] <;> rfl), by repeat (first | (with_reducible first | exact HB.out | apply zy | apply zq | apply zI | refine zM ?_ GE177.out | refine zM ?_ GE184.out) | exact HB.out)⟩
      ·
       rw [if_neg c26] at H
       exact absurd H (by simp)
end Go.Proofs.YtlalbohhopmpdaaGreat.PTop
namespace Go.Proofs.YtlalbohhopmpdaaGreat.PTop
open Go.Proofs.YtlalbohhopmpdaaGreat.Tiny
open Go.RowKit Go.YW.PrintWords Go.YW.PrintLast Go.YW.PrintMore
attribute [local go_sem] yN yO xu xw yP yR xm xq zk zo   -- for this text's walks alone
def qJ.f (k : Nat) (l0 : List Int) : Option (Int × Int × List Int × Int × Int) := (zX.f k l0).bind fun bt190 => (if bt190.2.2.2 = 0 then (if (l0.length : Int) < (wrap64 (6 + bt190.2.1)) then (some (0, 0, ([] : List Int), 0, 3)) else (if 7 ≤ (wrap64 (6 + bt190.2.1)) then (if (wrap64 (6 + bt190.2.1)) ≤ (l0.length : Int) then ((yB.f ((l0.take ((wrap64 (6 + bt190.2.1)) : Int).toNat).drop 7)).bind fun t196 => (some (bt190.1, bt190.2.2.1, t196, wrap64 (6 + bt190.2.1), 0))) else (none)) else (none))) else (some (0, 0, ([] : List Int), 0, bt190.2.2.2)))
def qJ.T7 : Bool × List (List Nat × List Nat) := (true, [([], []), ([0], [0]), ([], []), ([2], [2]), ([], []), ([], []), ([4, 5], [4, 5]), ([6], [6]), ([1, 3, 7], [1, 3, 7]), ([], []), ([8, 7, 0, 1, 2, 3, 4, 5, 6, 7, 8], [8]), ([9, 10, 0, 1, 2, 3, 4, 5, 6, 7, 8, 9, 10], [9]), ([11, 0, 1, 2, 3, 4, 5, 6, 7, 8, 9, 10, 11], [])])
def qJ.B7 : List Nat := [0, 1, 0, 4, 0, 0, 48, 112, 255, 0, 511, 2047, 4095]
theorem qJ.tab7 : jA .any (opsOf Tryz.f130 7) = qJ.T7 := by kernel_rfl
theorem qJ.bits7 : jo qJ.T7.2 qJ.B7 = true := by kernel_rfl
theorem qJ.calls (k : Nat) (A0 : Option Addr) (c0 : Nat) (l0 : List Int) (r1 : Int) (r2 : Int) (r3 : List Int) (r4 : Int) (r5 : Int) (w : World) (hr0 : Kd.C (Kd.int .u8) w A0 l0.length l0) (hc0 : l0.length ≤ c0) (h : qJ.f k l0 = some (r1, r2, r3, r4, r5)) :
  Calls Tryz.prog 130 #[.slice A0 l0.length c0] w fun e w' => ∃ v2_ : Value, e = .returned (.tuple #[.agg #[.int .i64 r1, .int .i64 r2, v2_], .int .i64 r4, .int .i64 r5]) ∧ Kd.R (Kd.int .u8) 5 w' w.heap.size (fun _ => True) v2_ r3 ∧ Below w.heap.size w w' := by
 have hu141 := Tryz.underlying141
 have hu201 := Tryz.underlying201
 have HR0 := ze.mk hr0
 have HC0 := ze.mk hc0
 clear hr0 hc0
 have HB := ze.mk (Below.refl w.heap.size w)
 have H : ((zX.f k l0).bind fun bt190 => (if bt190.2.2.2 = 0 then (if (l0.length : Int) < (wrap64 (6 + bt190.2.1)) then (some (0, 0, ([] : List Int), 0, 3)) else (if 7 ≤ (wrap64 (6 + bt190.2.1)) then (if (wrap64 (6 + bt190.2.1)) ≤ (l0.length : Int) then ((yB.f ((l0.take ((wrap64 (6 + bt190.2.1)) : Int).toNat).drop 7)).bind fun t196 => (some (bt190.1, bt190.2.2.1, t196, wrap64 (6 + bt190.2.1), 0))) else (none)) else (none))) else (some (0, 0, ([] : List Int), 0, bt190.2.2.2)))) = some (r1, r2, r3, r4, r5) := h
 clear h
 replace H := Option.bind_eq_some_iff.mp H
 obtain ⟨⟨t190, t191, t192, t193⟩, A20, H⟩ := H
 replace H : (if t193 = 0 then (if (l0.length : Int) < (wrap64 (6 + t191)) then (some (0, 0, ([] : List Int), 0, 3)) else (if 7 ≤ (wrap64 (6 + t191)) then (if (wrap64 (6 + t191)) ≤ (l0.length : Int) then ((yB.f ((l0.take ((wrap64 (6 + t191)) : Int).toNat).drop 7)).bind fun t196 => (some (t190, t192, t196, wrap64 (6 + t191), 0))) else (none)) else (none))) else (some (0, 0, ([] : List Int), 0, t193))) = some (r1, r2, r3, r4, r5) := H
 have A2 := ze.mk A20
 clear A20
 by_cases c3 : t193 = 0
 ·
  rw [if_pos c3] at H
  have c3b0 : (t193 == 0) = true := beq_iff_eq.mpr c3
  have c3b1 : (t193 != 0) = false := bne_eq_false_iff_eq.mpr c3
  clear c3
  by_cases c4 : (l0.length : Int) < (wrap64 (6 + t191))
  ·
   rw [if_pos c4] at H
   have c4b0 : decide ((l0.length : Int) < (wrap64 (6 + t191))) = true := dT c4
   clear c4
   simp only [Option.some.injEq, Prod.mk.injEq] at H
   obtain ⟨rfl, rfl, rfl, rfl, rfl⟩ := H
   go_enter Tryz.func130, Tryz.ntmps130
   go_wp2_with (first | ((with_reducible refine zN (N := 2) rfl ?_); refine yf ?hg (N := 2) ?hd (cs := #[.int .i64 0, .int .i64 0, .slice none 0 0]) (t := 141) ?hr ?_; (case hd => rfl); (case hg => rfl); (case hr => first | (go_simp; done) | (go_simp; rfl)); intro gb189 hg w5 hbox hb; have BK189 := ze.mk (hbox); have GW189 := ze.mk ((by rw [hg]; exact (zt (HB.out)) : w.heap.size ≤ gb189)); have GE189 := ze.mk ((by rw [hg]; exact (zt (HB.out)) : w.heap.size ≤ gb189)); replace HB := ze.mk (zG (HB.out) hb); clear hb hbox hg) | ((with_reducible refine zO (f := 158) rfl ?_); refine yL (some 10) rfl rfl Tryz.func158 (by kernel_rfl) rfl #[.slice A0 l0.length c0] rfl (by (try simp only [List.map_toArray, List.map_cons, List.map_nil]); first | done | rfl | (simp only [List.length_drop, List.length_take]; rfl)) ?_; (with_reducible refine (zX.calls k _ _ l0 t190 t191 t192 t193 _ ?side1 ?side2 A2.out).mono ?_); (case side1 => repeat (first | exact (Kd.zx HR0.out HB.out) | (with_reducible refine Kd.yC ?_ _) | (with_reducible refine Kd.yF ?_ _) | (with_reducible refine Kd.xe ?_))); (case side2 => exact HC0.out); rintro e w6 ⟨rfl, hb⟩; refine ⟨_, rfl, ?_⟩; replace BK189 := ze.mk (zb BK189.out hb); replace HB := ze.mk (zG (HB.out) hb); (try clear hb); (try clear hi)) | ((with_reducible refine zN (N := 5) rfl ?_); refine yf ?hg (N := 5) ?hd (cs := #[.int .i64 0, .int .i64 0, .int .i64 0]) (t := 201) ?hr ?_; (case hd => rfl); (case hg => rfl); (case hr => first | (go_simp; done) | (go_simp; rfl)); intro gb194 hg w7 hbox hb; have BK194 := ze.mk (hbox); have GW194 := ze.mk ((by rw [hg]; exact (zt (HB.out)) : w.heap.size ≤ gb194)); have GE194 := ze.mk ((by rw [hg]; exact (zt (HB.out)) : w.heap.size ≤ gb194)); replace HB := ze.mk (zG (HB.out) hb); have NB189_194 := ze.mk ((by rw [hg]; exact Nat.ne_of_lt (zF (g := gb189) (o := .cells #[.int .i64 0, .int .i64 0, .slice none 0 0] 141 (0, 0)) (BK189.out)) : gb189 ≠ gb194)); have NB194_189 := ze.mk ((by rw [hg]; exact Nat.ne_of_gt (zF (g := gb189) (o := .cells #[.int .i64 0, .int .i64 0, .slice none 0 0] 141 (0, 0)) (BK189.out)) : gb194 ≠ gb189)); replace BK189 := ze.mk (zb BK189.out hb); clear hb hbox hg; have hnb8 := NB194_189.out; have hnc8 := NB189_194.out; obtain ⟨hcz9_0, hcz9_1, hcz9_2⟩ := zS BK194.out; obtain ⟨hfz9_0, hfz9_1, hfz9_2⟩ := xD BK194.out; obtain ⟨hcz10_0, hcz10_1, hcz10_2⟩ := zS BK189.out; obtain ⟨hfz10_0, hfz10_1, hfz10_2⟩ := xD BK189.out))
   refine bodyPost_ret (qW rfl _ _ gb189 141 #[.int .i64 0, .int .i64 0, .slice none 0 0] (0, 0) _ rfl (by (with_reducible repeat (first | refine zm ?_ _ | refine zn ?_ | refine zg ?_ _)); refine zQ (cs := #[.int .i64 0, .int .i64 0, .slice none 0 0]) ?_ 2 _ rfl; (with_reducible repeat (first | refine zm ?_ _ | refine zn ?_ | refine zg ?_ _)); refine zQ (cs := #[.int .i64 0, .int .i64 0, .slice none 0 0]) ?_ 1 _ rfl; (with_reducible repeat (first | refine zm ?_ _ | refine zn ?_ | refine zg ?_ _)); refine zQ (cs := #[.int .i64 0, .int .i64 0, .slice none 0 0]) ?_ 0 _ rfl; (with_reducible repeat (first | refine zm ?_ _ | refine zn ?_ | refine zg ?_ _)); refine yI ?_ NB189_194.out _; (with_reducible repeat (first | refine zm ?_ _ | refine zn ?_ | refine zg ?_ _)); refine yI ?_ NB189_194.out _; (with_reducible repeat (first | refine zm ?_ _ | refine zn ?_ | refine zg ?_ _)); refine yI ?_ NB189_194.out _; (with_reducible repeat (first | refine zm ?_ _ | refine zn ?_ | refine zg ?_ _)); exact BK189.out) Tryz.underlying141 rfl (by kernel_rfl)) rfl ?_
   exact ⟨_, by first | rfl | (simp [zC, zD] <;> rfl) | (simp [*, zC, zD] <;> rfl), by first | exact Kd.ql _ _ _ _ _ | exact Kd.N_nil _ _ _ _ _ | exact Kd.V_nil _ _ _ _ _ | exact Kd.Q_nil _ _ _ _ _ | exact Kd.S_nil _ _ _ _ _, by repeat (first | (with_reducible first | exact HB.out | apply zy | apply zq | apply zI | refine zM ?_ GE189.out | refine zM ?_ GE194.out) | exact HB.out)⟩
  ·
   rw [if_neg c4] at H
   have c4b0 : decide ((l0.length : Int) < (wrap64 (6 + t191))) = false := dF c4
   clear c4
   by_cases c11 : 7 ≤ (wrap64 (6 + t191))
   ·
    rw [if_pos c11] at H
    have c11b0 := eq_true c11
    have c11b1 : decide (7 ≤ (wrap64 (6 + t191))) = true := dT c11
    by_cases c12 : (wrap64 (6 + t191)) ≤ (l0.length : Int)
    ·
     rw [if_pos c12] at H
     have c12b0 := eq_true c12
     have c12b1 : decide ((wrap64 (6 + t191)) ≤ (l0.length : Int)) = true := dT c12
     replace H := Option.bind_eq_some_iff.mp H
     obtain ⟨t196, A130, H⟩ := H
     have A13 := ze.mk A130
     clear A130
     simp only [Option.some.injEq, Prod.mk.injEq] at H
     obtain ⟨rfl, rfl, rfl, rfl, rfl⟩ := H
     go_enter Tryz.func130, Tryz.ntmps130
     try go_wp2_with (first | ((with_reducible refine zN (N := 2) rfl ?_); refine yf ?hg (N := 2) ?hd (cs := #[.int .i64 0, .int .i64 0, .slice none 0 0]) (t := 141) ?hr ?_; (case hd => rfl); (case hg => rfl); (case hr => first | (go_simp; done) | (go_simp; rfl)); intro gb189 hg w14 hbox hb; have BK189 := ze.mk (hbox); have GW189 := ze.mk ((by rw [hg]; exact (zt (HB.out)) : w.heap.size ≤ gb189)); have GE189 := ze.mk ((by rw [hg]; exact (zt (HB.out)) : w.heap.size ≤ gb189)); replace HB := ze.mk (zG (HB.out) hb); clear hb hbox hg) | ((with_reducible refine zO (f := 158) rfl ?_); refine yL (some 10) rfl rfl Tryz.func158 (by kernel_rfl) rfl #[.slice A0 l0.length c0] rfl (by (try simp only [List.map_toArray, List.map_cons, List.map_nil]); first | done | rfl | (simp only [List.length_drop, List.length_take]; rfl)) ?_; (with_reducible refine (zX.calls k _ _ l0 t190 t191 t192 t193 _ ?side1 ?side2 A2.out).mono ?_); (case side1 => repeat (first | exact (Kd.zx HR0.out HB.out) | (with_reducible refine Kd.yC ?_ _) | (with_reducible refine Kd.yF ?_ _) | (with_reducible refine Kd.xe ?_))); (case side2 => exact HC0.out); rintro e w15 ⟨rfl, hb⟩; refine ⟨_, rfl, ?_⟩; replace BK189 := ze.mk (zb BK189.out hb); replace HB := ze.mk (zG (HB.out) hb); (try clear hb); (try clear hi)) | ((with_reducible refine zN (N := 5) rfl ?_); refine yf ?hg (N := 5) ?hd (cs := #[.int .i64 0, .int .i64 0, .int .i64 0]) (t := 201) ?hr ?_; (case hd => rfl); (case hg => rfl); (case hr => first | (go_simp; done) | (go_simp; rfl)); intro gb194 hg w16 hbox hb; have BK194 := ze.mk (hbox); have GW194 := ze.mk ((by rw [hg]; exact (zt (HB.out)) : w.heap.size ≤ gb194)); have GE194 := ze.mk ((by rw [hg]; exact (zt (HB.out)) : w.heap.size ≤ gb194)); replace HB := ze.mk (zG (HB.out) hb); have NB189_194 := ze.mk ((by rw [hg]; exact Nat.ne_of_lt (zF (g := gb189) (o := .cells #[.int .i64 0, .int .i64 0, .slice none 0 0] 141 (0, 0)) (BK189.out)) : gb189 ≠ gb194)); have NB194_189 := ze.mk ((by rw [hg]; exact Nat.ne_of_gt (zF (g := gb189) (o := .cells #[.int .i64 0, .int .i64 0, .slice none 0 0] 141 (0, 0)) (BK189.out)) : gb194 ≠ gb189)); replace BK189 := ze.mk (zb BK189.out hb); clear hb hbox hg; have hnb17 := NB194_189.out; have hnc17 := NB189_194.out; obtain ⟨hcz18_0, hcz18_1, hcz18_2⟩ := zS BK194.out; obtain ⟨hfz18_0, hfz18_1, hfz18_2⟩ := xD BK194.out))
     have n0_ : ze ((((w16.setCell ⟨gb194, 0, none⟩ (.int .i64 t190)).setCell ⟨gb194, 1, none⟩ (.int .i64 t191)).setCell ⟨gb194, 2, none⟩ (.int .i64 t192)).heap[gb189]? = some (.cells #[.int .i64 0, .int .i64 0, .slice none 0 0] 141 (0, 0))) := ⟨by (with_reducible repeat (first | refine zm ?_ _ | refine zn ?_ | refine zg ?_ _)); refine yI ?_ NB189_194.out _; (with_reducible repeat (first | refine zm ?_ _ | refine zn ?_ | refine zg ?_ _)); refine yI ?_ NB189_194.out _; (with_reducible repeat (first | refine zm ?_ _ | refine zn ?_ | refine zg ?_ _)); refine yI ?_ NB189_194.out _; (with_reducible repeat (first | refine zm ?_ _ | refine zn ?_ | refine zg ?_ _)); exact BK189.out⟩
     have n1_ : ze ((((w16.setCell ⟨gb194, 0, none⟩ (.int .i64 t190)).setCell ⟨gb194, 1, none⟩ (.int .i64 t191)).setCell ⟨gb194, 2, none⟩ (.int .i64 t192)).heap[gb194]? = some (.cells #[.int .i64 t190, .int .i64 t191, .int .i64 t192] 201 (0, 0))) := ⟨by (with_reducible repeat (first | refine zm ?_ _ | refine zn ?_ | refine zg ?_ _)); refine zQ (cs := #[.int .i64 t190, .int .i64 t191, .int .i64 0]) ?_ 2 _ rfl; (with_reducible repeat (first | refine zm ?_ _ | refine zn ?_ | refine zg ?_ _)); refine zQ (cs := #[.int .i64 t190, .int .i64 0, .int .i64 0]) ?_ 1 _ rfl; (with_reducible repeat (first | refine zm ?_ _ | refine zn ?_ | refine zg ?_ _)); refine zQ (cs := #[.int .i64 0, .int .i64 0, .int .i64 0]) ?_ 0 _ rfl; (with_reducible repeat (first | refine zm ?_ _ | refine zn ?_ | refine zg ?_ _)); exact BK194.out⟩
     have n2_ : ze (Below w.heap.size w (((w16.setCell ⟨gb194, 0, none⟩ (.int .i64 t190)).setCell ⟨gb194, 1, none⟩ (.int .i64 t191)).setCell ⟨gb194, 2, none⟩ (.int .i64 t192))) := ⟨by repeat (first | (with_reducible first | exact HB.out | apply zy | apply zq | apply zI | refine zM ?_ GE189.out | refine zM ?_ GE194.out) | exact HB.out)⟩
     (try clear BK189)
     (try clear BK194)
     (try clear HB)
     first | (rw [qR (((w16.setCell ⟨gb194, 0, none⟩ (.int .i64 t190)).setCell ⟨gb194, 1, none⟩ (.int .i64 t191)).setCell ⟨gb194, 2, none⟩ (.int .i64 t192))]; generalize hq_ : World.drewN (((w16.setCell ⟨gb194, 0, none⟩ (.int .i64 t190)).setCell ⟨gb194, 1, none⟩ (.int .i64 t191)).setCell ⟨gb194, 2, none⟩ (.int .i64 t192)) _ = w19; have m0_ : ze (w19.heap[gb189]? = some (.cells #[.int .i64 0, .int .i64 0, .slice none 0 0] 141 (0, 0))) := ⟨by rw [← hq_]; first | exact Kd.qc n0_.out _ | exact Kd.Q_drewN n0_.out _ | exact zm n0_.out _ | exact zq n0_.out _ | exact Kd.S_drewN n0_.out _ | exact n0_.out⟩; have m1_ : ze (w19.heap[gb194]? = some (.cells #[.int .i64 t190, .int .i64 t191, .int .i64 t192] 201 (0, 0))) := ⟨by rw [← hq_]; first | exact Kd.qc n1_.out _ | exact Kd.Q_drewN n1_.out _ | exact zm n1_.out _ | exact zq n1_.out _ | exact Kd.S_drewN n1_.out _ | exact n1_.out⟩; have m2_ : ze (Below w.heap.size w w19) := ⟨by rw [← hq_]; first | exact Kd.qc n2_.out _ | exact Kd.Q_drewN n2_.out _ | exact zm n2_.out _ | exact zq n2_.out _ | exact Kd.S_drewN n2_.out _ | exact n2_.out⟩; clear hq_ n0_ n1_ n2_; have n0_ := m0_; have n1_ := m1_; have n2_ := m2_; clear m0_ m1_ m2_) | (generalize (((w16.setCell ⟨gb194, 0, none⟩ (.int .i64 t190)).setCell ⟨gb194, 1, none⟩ (.int .i64 t191)).setCell ⟨gb194, 2, none⟩ (.int .i64 t192)) = w19 at n0_ n1_ n2_ ⊢)
     have BK189 := n0_
     have BK194 := n1_
     have HB := n2_
     clear n0_ n1_ n2_
     have n0_ := ze.mk (zn BK189.out)
     have n1_ := ze.mk (zn BK194.out)
     have n2_ := ze.mk (zI HB.out)
     clear BK189
     clear BK194
     clear HB
     have BK189 := n0_
     have BK194 := n1_
     have HB := n2_
     clear n0_ n1_ n2_
     obtain ⟨i021, hi021, _, hsz21, _⟩ := info_parts info5
     obtain ⟨A21, hcut21, hA21, hC21⟩ := ZN (P := Tryz.prog) (Value.int .u8) 0 59 5 .i64 .i64 Tryz.underlying59 hi021 hsz21 A0 c0 l0 7 (wrap64 (6 + t191)) (by omega) (by first | omega | exact of_decide_eq_true (by first | (with_reducible assumption) | assumption)) (of_decide_eq_true (by first | (with_reducible assumption) | assumption)) HC0.out
     have HR195 := ze.mk (Kd.C_of_reads (h1 := fun _ => rfl) (hA21 _ (Kd.kU HR0.out)))
     have HC195 := ze.mk hC21
     clear hA21 hC21 hi021 hsz21
     refine vv (n := 13) (S := fun w' => w'.cell? ⟨gb194, 0, none⟩ = some (.int .i64 t190) ∧ w'.cell? ⟨gb194, 1, none⟩ = some (.int .i64 t191) ∧ w'.cell? ⟨gb194, 2, none⟩ = some (.int .i64 t192)) (ds := []) #[false,false,false,false,false,false,false,false,false,false,false,false,false] (by kernel_rfl) rfl rfl ⟨(za BK194.out 0).trans rfl, (za BK194.out 1).trans rfl, (za BK194.out 2).trans rfl⟩ (fun hHeld => ?_); refine jk qJ.tab7 qJ.bits7 (fun HT_ HW_ => ?_)
     generalize w19.drew = w20 at BK189 BK194 HB HR195 hHeld ⊢
     refine pq_ 0 (some 25) ?_ (hc := yo HT_.out (by kernel_rfl))
     refine pq_ 2 (some 27) ?_ (hc := yo HT_.out (by kernel_rfl))
     refine pq_ 4 (some 29) ?_ (hc := yo HT_.out (by kernel_rfl))
     refine pq_ 5 (some 30) ?_ (hc := yo HT_.out (by kernel_rfl))
     refine pq_ 6 (some 31) ?_ (hc := yo HT_.out (by kernel_rfl))
     refine pq_ 9 (some 34) ?_ (hc := yo HT_.out (by kernel_rfl))
     refine tq_ 1 (some 26) hHeld ?_ (hc := qd HT_.out HW_.out (by kernel_rfl))
     refine tq_ 3 (some 28) hHeld ?_ (hc := qd HT_.out HW_.out (by kernel_rfl))
     refine oq_ 7 (some 32) (fun K hK => ?_) (hc := jg HT_.out (by kernel_rfl))
     refine yh Tryz.func159 (by kernel_rfl) rfl #[.slice A21 ((l0.take ((wrap64 (6 + t191)) : Int).toNat).drop 7).length (c0 - 7)] (by rfl) rfl rfl (by (try simp only [List.map_toArray, List.map_cons, List.map_nil]); first | done | (rw [show ((l0.take ((wrap64 (6 + t191)) : Int).toNat).drop 7).length = ((wrap64 (6 + t191)).toNat - 7) from (by rw [List.length_drop, List.length_take]; have h_ : ((wrap64 (6 + t191)) : Int) ≤ (l0.length : Int) := of_decide_eq_true (by first | (with_reducible assumption) | assumption); omega)] <;> rfl) | rfl | (simp only [List.length_drop, List.length_take]; rfl)) ?_
     with_reducible refine (yB.calls _ _ ((l0.take ((wrap64 (6 + t191)) : Int).toNat).drop 7) t196 _ ?side1 ?side2 A13.out).mono ?_
     (case side1 => repeat (first | exact (Kd.zx HR195.out HB.out) | (with_reducible refine Kd.yC ?_ _) | (with_reducible refine Kd.yF ?_ _) | (with_reducible refine Kd.xe ?_)))
     (case side2 => exact HC195.out)
     rintro e w22 ⟨v197, rfl, ho0, hb⟩
     refine ⟨_, rfl, ?_⟩
     have n0_ := ze.mk (Kd.zU ho0 (zt (HB.out)))
     have n1_ := ze.mk (zb BK189.out hb)
     have n2_ := ze.mk (zb BK194.out hb)
     have n3_ := ze.mk (zG (HB.out) hb)
     clear BK189
     clear BK194
     clear HB
     have HO198 := n0_
     have BK189 := n1_
     have BK194 := n2_
     have HB := n3_
     clear n0_ n1_ n2_ n3_
     (try clear hb)
     (try clear hb2)
     (try clear hk)
     (try clear hi)
     (try clear ho0)
     obtain ⟨Ao23, co23, eo23⟩ := Kd.yc HO198.out
     (first | subst eo23 | (injection eo23 with f1_ f2_ f3_; have f4_ := f1_.symm; have f5_ := f3_.symm; clear f1_ f2_ f3_; subst f4_; subst f5_))
     refine hK.out _ _ ⟨(za BK194.out 0).trans rfl, (za BK194.out 1).trans rfl, (za BK194.out 2).trans rfl⟩ (fun hHeld => ?_)
     clear hK K
     refine nq_ ?_
     refine pq_ 8 (some 33) ?_ (hc := yo HT_.out (by kernel_rfl))
     refine oq_ 10 (none) (fun K hK => ?_) (hc := jg HT_.out (by kernel_rfl))
     have hs24 : w22.cell? ⟨gb189, 0, none⟩ = some (.int .i64 0) := (za BK189.out 0).trans rfl
     have hfs24 := zh BK189.out 0
     have hns24_1 := NB194_189.out
     have hms24_1 := NB189_194.out
     have hs25 : w22.cell? ⟨gb189, 1, none⟩ = some (.int .i64 0) := (za BK189.out 1).trans rfl
     have hfs25 := zh BK189.out 1
     have hns25_1 := NB194_189.out
     have hms25_1 := NB189_194.out
     have hs26 : w22.cell? ⟨gb189, 2, none⟩ = some (.slice none 0 0) := (za BK189.out 2).trans rfl
     have hfs26 := zh BK189.out 2
     have hns26_1 := NB194_189.out
     have hms26_1 := NB189_194.out
     refine jY (w1 := ?_) (by rfl) rfl ?_ ?_
     rotate_left
     ·
      go_simp
      rfl
     refine hK.out _ _ ⟨((cell_far (p := ⟨gb189, _, none⟩) NB194_189.out _).trans (((cell_far (p := ⟨gb189, _, none⟩) NB194_189.out _).trans (((cell_far (p := ⟨gb189, _, none⟩) NB194_189.out _).trans (hHeld.1)))))), ((cell_far (p := ⟨gb189, _, none⟩) NB194_189.out _).trans (((cell_far (p := ⟨gb189, _, none⟩) NB194_189.out _).trans (((cell_far (p := ⟨gb189, _, none⟩) NB194_189.out _).trans (hHeld.2.1)))))), ((cell_far (p := ⟨gb189, _, none⟩) NB194_189.out _).trans (((cell_far (p := ⟨gb189, _, none⟩) NB194_189.out _).trans (((cell_far (p := ⟨gb189, _, none⟩) NB194_189.out _).trans (hHeld.2.2))))))⟩ (fun hHeld => ?_)
     clear hK K
     refine pq_ 11 (some 3) ?_ (hc := yo HT_.out (by kernel_rfl))
     refine pq_ 12 (some 4) ?_ (hc := yo HT_.out (by kernel_rfl))
     refine xJ (vk HT_.out (by kernel_rfl)) ?_
     try go_wp2
     refine bodyPost_ret (qW rfl _ _ gb189 141 #[.int .i64 t190, .int .i64 t192, .slice Ao23 t196.length co23] (0, 0) _ rfl (by (with_reducible repeat (first | refine zm ?_ _ | refine zn ?_ | refine zg ?_ _)); refine zQ (cs := #[.int .i64 t190, .int .i64 t192, .slice none 0 0]) ?_ 2 _ rfl; (with_reducible repeat (first | refine zm ?_ _ | refine zn ?_ | refine zg ?_ _)); refine zQ (cs := #[.int .i64 t190, .int .i64 0, .slice none 0 0]) ?_ 1 _ rfl; (with_reducible repeat (first | refine zm ?_ _ | refine zn ?_ | refine zg ?_ _)); refine zQ (cs := #[.int .i64 0, .int .i64 0, .slice none 0 0]) ?_ 0 _ rfl; (with_reducible repeat (first | refine zm ?_ _ | refine zn ?_ | refine zg ?_ _)); exact BK189.out) Tryz.underlying141 rfl (by kernel_rfl)) rfl ?_
     exact ⟨_, by first | rfl | (simp [zC, zD] <;> rfl) | (simp [*, zC, zD] <;> rfl), Kd.yX (Kd.rfR (Kd.rfR (Kd.rfR (Kd.Qp HO198.out BK189.out (by decide))))) (fun _ hk => trivial), by repeat (first | (with_reducible first | exact HB.out | apply zy | apply zq | apply zI | refine zM ?_ GE189.out | refine zM ?_ GE194.out) | exact HB.out)⟩
    ·
     rw [if_neg c12] at H
     exact absurd H (by simp)
   ·
    rw [if_neg c11] at H
    exact absurd H (by simp)
 ·
  rw [if_neg c3] at H
  have c3b0 : (t193 == 0) = false := beq_eq_false_iff_ne.mpr c3
  have c3b1 : (t193 != 0) = true := bne_iff_ne.mpr c3
  simp only [Option.some.injEq, Prod.mk.injEq] at H
  obtain ⟨rfl, rfl, rfl, rfl, rfl⟩ := H
  go_enter Tryz.func130, Tryz.ntmps130
  go_wp2_with (first | ((with_reducible refine zN (N := 2) rfl ?_); refine yf ?hg (N := 2) ?hd (cs := #[.int .i64 0, .int .i64 0, .slice none 0 0]) (t := 141) ?hr ?_; (case hd => rfl); (case hg => rfl); (case hr => first | (go_simp; done) | (go_simp; rfl)); intro gb189 hg w27 hbox hb; have BK189 := ze.mk (hbox); have GW189 := ze.mk ((by rw [hg]; exact (zt (HB.out)) : w.heap.size ≤ gb189)); have GE189 := ze.mk ((by rw [hg]; exact (zt (HB.out)) : w.heap.size ≤ gb189)); replace HB := ze.mk (zG (HB.out) hb); clear hb hbox hg) | ((with_reducible refine zO (f := 158) rfl ?_); refine yL (some 10) rfl rfl Tryz.func158 (by kernel_rfl) rfl #[.slice A0 l0.length c0] rfl (by (try simp only [List.map_toArray, List.map_cons, List.map_nil]); first | done | rfl | (simp only [List.length_drop, List.length_take]; rfl)) ?_; (with_reducible refine (zX.calls k _ _ l0 t190 t191 t192 t193 _ ?side1 ?side2 A2.out).mono ?_); (case side1 => repeat (first | exact (Kd.zx HR0.out HB.out) | (with_reducible refine Kd.yC ?_ _) | (with_reducible refine Kd.yF ?_ _) | (with_reducible refine Kd.xe ?_))); (case side2 => exact HC0.out); rintro e w28 ⟨rfl, hb⟩; refine ⟨_, rfl, ?_⟩; replace BK189 := ze.mk (zb BK189.out hb); replace HB := ze.mk (zG (HB.out) hb); (try clear hb); (try clear hi)) | ((with_reducible refine zN (N := 5) rfl ?_); refine yf ?hg (N := 5) ?hd (cs := #[.int .i64 0, .int .i64 0, .int .i64 0]) (t := 201) ?hr ?_; (case hd => rfl); (case hg => rfl); (case hr => first | (go_simp; done) | (go_simp; rfl)); intro gb194 hg w29 hbox hb; have BK194 := ze.mk (hbox); have GW194 := ze.mk ((by rw [hg]; exact (zt (HB.out)) : w.heap.size ≤ gb194)); have GE194 := ze.mk ((by rw [hg]; exact (zt (HB.out)) : w.heap.size ≤ gb194)); replace HB := ze.mk (zG (HB.out) hb); have NB189_194 := ze.mk ((by rw [hg]; exact Nat.ne_of_lt (zF (g := gb189) (o := .cells #[.int .i64 0, .int .i64 0, .slice none 0 0] 141 (0, 0)) (BK189.out)) : gb189 ≠ gb194)); have NB194_189 := ze.mk ((by rw [hg]; exact Nat.ne_of_gt (zF (g := gb189) (o := .cells #[.int .i64 0, .int .i64 0, .slice none 0 0] 141 (0, 0)) (BK189.out)) : gb194 ≠ gb189)); replace BK189 := ze.mk (zb BK189.out hb); clear hb hbox hg; have hnb30 := NB194_189.out; have hnc30 := NB189_194.out; obtain ⟨hcz31_0, hcz31_1, hcz31_2⟩ := zS BK194.out; obtain ⟨hfz31_0, hfz31_1, hfz31_2⟩ := xD BK194.out; obtain ⟨hcz32_0, hcz32_1, hcz32_2⟩ := zS BK189.out; obtain ⟨hfz32_0, hfz32_1, hfz32_2⟩ := xD BK189.out))
  refine bodyPost_ret (qW rfl _ _ gb189 141 #[.int .i64 0, .int .i64 0, .slice none 0 0] (0, 0) _ rfl (by (with_reducible repeat (first | refine zm ?_ _ | refine zn ?_ | refine zg ?_ _)); refine zQ (cs := #[.int .i64 0, .int .i64 0, .slice none 0 0]) ?_ 2 _ rfl; (with_reducible repeat (first | refine zm ?_ _ | refine zn ?_ | refine zg ?_ _)); refine zQ (cs := #[.int .i64 0, .int .i64 0, .slice none 0 0]) ?_ 1 _ rfl; (with_reducible repeat (first | refine zm ?_ _ | refine zn ?_ | refine zg ?_ _)); refine zQ (cs := #[.int .i64 0, .int .i64 0, .slice none 0 0]) ?_ 0 _ rfl; (with_reducible repeat (first | refine zm ?_ _ | refine zn ?_ | refine zg ?_ _)); refine yI ?_ NB189_194.out _; (with_reducible repeat (first | refine zm ?_ _ | refine zn ?_ | refine zg ?_ _)); refine yI ?_ NB189_194.out _; (with_reducible repeat (first | refine zm ?_ _ | refine zn ?_ | refine zg ?_ _)); refine yI ?_ NB189_194.out _; (with_reducible repeat (first | refine zm ?_ _ | refine zn ?_ | refine zg ?_ _)); exact BK189.out) Tryz.underlying141 rfl (by kernel_rfl)) rfl ?_
  exact ⟨_, by first | rfl | (simp [zC, zD] <;> rfl) | (simp [*, zC, zD] <;> rfl), by first | exact Kd.ql _ _ _ _ _ | exact Kd.N_nil _ _ _ _ _ | exact Kd.V_nil _ _ _ _ _ | exact Kd.Q_nil _ _ _ _ _ | exact Kd.S_nil _ _ _ _ _, by repeat (first | (with_reducible first | exact HB.out | apply zy | apply zq | apply zI | refine zM ?_ GE189.out | refine zM ?_ GE194.out) | exact HB.out)⟩
end Go.Proofs.YtlalbohhopmpdaaGreat.PTop
