/- Words and walks for ConfSames (made of the session's own texts; each part by itself). -/
import Derived.Deep.DeepCutAuto
import Derived.Deep.DeepMust
import Derived.Laws.CopyOwn
import Derived.Test.YtjlbgopgeepiaaaZConfSames8
set_option linter.unusedVariables false
set_option linter.unusedSimpArgs false
namespace Go.Proofs.Ytjlbgopgeepiaaa.Conf
open Go.RowKit Go.Proofs.Ytjlbgopgeepiaaa.PConf Go.Proofs.YtjlbgopgeepiaaaW.PrintWords Go.Proofs.YtjlbgopgeepiaaaW.PrintLast Go.Proofs.YtjlbgopgeepiaaaW.PrintMore Go.Proofs.Ytjlbgopgeepiaaa.Num Go.Proofs.Ytjlbgopgeepiaaa.LemWithinConf Go.Proofs.Ytjlbgopgeepiaaa.LemDigitConf Go.Proofs.Ytjlbgopgeepiaaa.LemSpanConf Go.Proofs.Ytjlbgopgeepiaaa.LemCheckConf Go.Proofs.Ytjlbgopgeepiaaa.LemGroupConf Go.Proofs.Ytjlbgopgeepiaaa.LemGChkConf Go.Proofs.Ytjlbgopgeepiaaa.LemIdenConf Go.Proofs.Ytjlbgopgeepiaaa.LemConfConf
attribute [local go_sem] plus_setCell_drewN plus_cell_same
theorem usual_s (w : World) : Calls Try.prog 13 #[] w fun e w' => ∃ A0 A1 A2 c0 c1 c2, e = .returned (.agg #[.slice A0 umap.length c0, .slice A1 ([] : List S48).length c1, .int .i64 60000, .int .i64 100, .int .i64 32, .int .i64 8, .int .i64 10000, .int .i64 100, .int .i64 500, .int .i64 1024, .int .i64 1024, .int .u64 0, .slice A2 uobj.length c2]) ∧ Rws w' A0 A1 A2 c0 c1 c2 umap [] uobj ∧ Below w.heap.size w w' := by
  refine (conf_Usual.calls 20 umap [] 60000 100 32 8 10000 100 500 1024 1024 0 uobj w usual_20).mono ?_
  rintro e w1 ⟨v0, v1, v12, rfl, h0, h1, h2, hb⟩
  obtain ⟨A0, c0, rfl⟩ := Kd.R_slice h0
  obtain ⟨A1, c1, rfl⟩ := Kd.R_slice h1
  obtain ⟨A2, c2, rfl⟩ := Kd.R_slice h2
  exact ⟨A0, A1, A2, c0, c1, c2, rfl, ⟨⟨(Kd.R_reads' h0).2.2, (Kd.R_reads' h0).2.1⟩, ⟨(Kd.R_reads' h1).2.2, (Kd.R_reads' h1).2.1⟩, ⟨(Kd.R_reads' h2).2.2, (Kd.R_reads' h2).2.1⟩⟩, hb⟩
theorem usual_r (w : World) : Calls Try.prog 18 #[] w fun e w' => ∃ A0 A1 A2 c0 c1 c2, e = .returned (.agg #[.slice A0 umap.length c0, .slice A1 ([] : List S48).length c1, .int .i64 60000, .int .i64 100, .int .i64 32, .int .i64 8, .int .i64 10000, .int .i64 100, .int .i64 500, .int .i64 1024, .int .i64 1024, .int .u64 0, .slice A2 uobj.length c2]) ∧ Rws w' A0 A1 A2 c0 c1 c2 umap [] uobj ∧ Below w.heap.size w w' := by
  refine (busbarref12_Usual.calls 20 umap [] 60000 100 32 8 10000 100 500 1024 1024 0 uobj w (by kernel_rfl)).mono ?_
  rintro e w1 ⟨v0, v1, v12, rfl, h0, h1, h2, hb⟩
  obtain ⟨A0, c0, rfl⟩ := Kd.R_slice h0
  obtain ⟨A1, c1, rfl⟩ := Kd.R_slice h1
  obtain ⟨A2, c2, rfl⟩ := Kd.R_slice h2
  exact ⟨A0, A1, A2, c0, c1, c2, rfl, ⟨⟨(Kd.R_reads' h0).2.2, (Kd.R_reads' h0).2.1⟩, ⟨(Kd.R_reads' h1).2.2, (Kd.R_reads' h1).2.1⟩, ⟨(Kd.R_reads' h2).2.2, (Kd.R_reads' h2).2.1⟩⟩, hb⟩
theorem conf_r (ks : List Int) (a3 a4 a5 a6 a7 a8 a11 : Int) (he : busbarlaw0_Conf.f 1000 ks = some (cmap, cgrp, 100, a3, a4, a5, a6, a7, a8, 1024, 1024, a11, uobj)) (A : Option Addr) (c : Nat) (w : World) (hr : Kd.C (Kd.int .i64) w A ks.length ks) (hc : ks.length ≤ c) : Calls Try.prog 10 #[.slice A ks.length c] w fun e w' => ∃ A0 A1 A2 c0 c1 c2, e = .returned (.agg #[.slice A0 cmap.length c0, .slice A1 cgrp.length c1, .int .i64 100, .int .i64 a3, .int .i64 a4, .int .i64 a5, .int .i64 a6, .int .i64 a7, .int .i64 a8, .int .i64 1024, .int .i64 1024, .int .u64 a11, .slice A2 uobj.length c2]) ∧ (Kd.R k46 46 w' w.heap.size (fun _ => True) (.slice A0 cmap.length c0) cmap ∧ Kd.R k50 50 w' w.heap.size (fun _ => True) (.slice A2 uobj.length c2) uobj) ∧ Below w.heap.size w w' := by
  refine (busbarlaw0_Conf.calls 1000 A c ks cmap cgrp 100 a3 a4 a5 a6 a7 a8 1024 1024 a11 uobj w hr hc he).mono ?_
  rintro e w1 ⟨v0, v1, v12, rfl, h0, h1, h2, hb⟩
  obtain ⟨A0, c0, rfl⟩ := Kd.R_slice h0
  obtain ⟨A1, c1, rfl⟩ := Kd.R_slice h1
  obtain ⟨A2, c2, rfl⟩ := Kd.R_slice h2
  exact ⟨A0, A1, A2, c0, c1, c2, rfl, ⟨h0, h2⟩, hb⟩
theorem all_r (ks : List Int) (gl : List S48) (he : busbarlaw14_All.f 70 ks = some (gl, whole)) (A : Option Addr) (c : Nat) (w : World) (hr : Kd.C (Kd.int .i64) w A ks.length ks) (hc : ks.length ≤ c) : Calls Try.prog 15 #[.slice A ks.length c] w fun e w' => ∃ A0 A1 c0 c1, e = .returned (.tuple #[.slice A0 gl.length c0, .slice A1 whole.length c1]) ∧ Kd.R k48 48 w' w.heap.size (fun _ => True) (.slice A0 gl.length c0) gl ∧ Below w.heap.size w w' := by
  refine (busbarlaw14_All.calls 70 A c ks gl whole w hr hc he).mono ?_
  rintro e w1 ⟨v0, v1, rfl, h0, h1, hb⟩
  obtain ⟨A0, c0, rfl⟩ := Kd.R_slice h0
  obtain ⟨A1, c1, rfl⟩ := Kd.R_slice h1
  exact ⟨A0, A1, c0, c1, rfl, h0, hb⟩
theorem same_c (w : World) (A0 A1 A2 B0 B1 B2 : Option Addr) (c0 c1 c2 d0 d1 d2 : Nat) (l0 m0 : List S46) (l1 m1 : List S48) (l2 m2 : List S50) (z2 z3 z4 z5 z6 z7 z8 z9 z10 z11 y2 y3 y4 y5 y6 y7 y8 y9 y10 y11 : Int) (h0 : l0.length ≤ 1000) (h1 : l1.length ≤ 1000) (h2 : l2.length ≤ 1000) (ha : Rws w A0 A1 A2 c0 c1 c2 l0 l1 l2) (hb : Rws w B0 B1 B2 d0 d1 d2 m0 m1 m2) (r : Bool) (hr : r = true ↔ (z2 = y2 ∧ z3 = y3 ∧ z4 = y4 ∧ z5 = y5 ∧ z6 = y6 ∧ z7 = y7 ∧ z8 = y8 ∧ z9 = y9 ∧ z10 = y10 ∧ z11 = y11) ∧ l0 = m0 ∧ l1 = m1 ∧ l2 = m2) : Calls Try.prog 16 #[.agg #[.slice A0 l0.length c0, .slice A1 l1.length c1, .int .i64 z2, .int .i64 z3, .int .i64 z4, .int .i64 z5, .int .i64 z6, .int .i64 z7, .int .i64 z8, .int .i64 z9, .int .i64 z10, .int .u64 z11, .slice A2 l2.length c2], .agg #[.slice B0 m0.length d0, .slice B1 m1.length d1, .int .i64 y2, .int .i64 y3, .int .i64 y4, .int .i64 y5, .int .i64 y6, .int .i64 y7, .int .i64 y8, .int .i64 y9, .int .i64 y10, .int .u64 y11, .slice B2 m2.length d2]] w fun e w' => e = .returned (.bool r) ∧ Below w.heap.size w w' := by
  obtain ⟨b, h3, h4⟩ := same_f l0 m0 l1 m1 z2 z3 z4 z5 z6 z7 z8 z9 z10 z11 y2 y3 y4 y5 y6 y7 y8 y9 y10 y11 l2 m2 h0 h1 h2 1001 (Nat.le_refl _)
  obtain rfl : b = r := Bool.eq_iff_iff.2 (h4.trans hr.symm)
  exact conf_Same.calls 1001 A0 c0 l0 A1 c1 l1 z2 z3 z4 z5 z6 z7 z8 z9 z10 z11 A2 c2 l2 B0 d0 m0 B1 d1 m1 y2 y3 y4 y5 y6 y7 y8 y9 y10 y11 B2 d2 m2 b w ha.1.1 ha.1.2 ha.2.1.1 ha.2.1.2 ha.2.2.1 ha.2.2.2 hb.1.1 hb.1.2 hb.2.1.1 hb.2.1.2 hb.2.2.1 hb.2.2.2 h3
theorem w64i (n : Int) : IntKind.i64.wrap n = wrap64 n := by
  unfold wrap64
  exact IntKind.wrap_i64 n
set_option maxRecDepth 100000 in
set_option maxHeartbeats 4000000 in
theorem ConfSames_calls (A : Option Addr) (c0 : Nat) (ks : List Int) (p1 p2 : Int) (w : World) (hr : Kd.C (Kd.int .i64) w A ks.length ks) (hc : ks.length ≤ c0) (hks : ∀ x ∈ ks, -9223372036854775808 ≤ x ∧ x < 9223372036854775808) : Calls Try.prog 5 #[.slice A ks.length c0, .int .i64 p1, .int .i64 p2] w fun e w' => e = .returned (.bool true) ∧ Below w.heap.size w w' := by
  have hu23 := Try.underlying23
  have hu27 := Try.underlying27
  obtain ⟨a3, a4, a5, a6, a7, a8, a11, he, hI⟩ := law_conf ks hks (by have := Kd.C_max hr; omega) (k := 1000) (by omega)
  obtain ⟨gl, hg, _, hgl⟩ := all_eq ks hks
  have EC := Lib.hid he
  have EG := Lib.hid (hg 70 (Nat.le_refl _))
  have GL := Lib.hid hgl
  have HR := Lib.hid hr
  have HC := Lib.hid hc
  clear he hg hgl hr hc hks hI
  go_enter Try.func5, Try.ntmps5
  go_wp2_with (fail)
  refine (busbarlaw15_awake.calls 10000 true _ (LemAwakeConf.awake_ev (by omega))).mono ?_
  rintro e w1 ⟨rfl, hb⟩
  have B1 := Lib.hid hb
  have R1 := Lib.hid (Kd.C_below HR.out hb)
  clear hb
  go_wp2_with (fail)
  refine (conf_r ks a3 a4 a5 a6 a7 a8 a11 EC.out A c0 _ R1.out HC.out).mono ?_
  rintro e w2 ⟨C0, C1, C2, e0, e1, e2, rfl, hR, hb⟩
  have CR := Lib.hid hR
  have B2 := Lib.hid (below_then B1.out B1.out.size hb)
  have R2 := Lib.hid (Kd.C_below R1.out hb)
  clear hR hb B1 R1
  go_wp2_with (fail)
  refine (conf_r ks a3 a4 a5 a6 a7 a8 a11 EC.out A c0 _ R2.out HC.out).mono ?_
  rintro e w3 ⟨D0, D1, D2, f0, f1, f2, rfl, hR, hb⟩
  have DR := Lib.hid hR
  have BC := Lib.hid hb
  have B3 := Lib.hid (below_then B2.out B2.out.size hb)
  have R3 := Lib.hid (Kd.C_below R2.out hb)
  clear hR hb R2
  go_wp2_with (fail)
  have ho : Below w3.heap.size w3 ((w3.alloc (.cells (cf (.slice C0 cmap.length e0) (.slice C1 cgrp.length e1) (.slice C2 uobj.length e2) 100 a3 a4 a5 a6 a7 a8 1024 1024 a11) 27)).alloc (.cells (cf (.slice D0 cmap.length f0) (.slice D1 cgrp.length f1) (.slice D2 uobj.length f2) 100 a3 a4 a5 a6 a7 a8 1024 1024 a11) 27)) := ((Below.refl _ _).alloc (Nat.le_refl _) _).alloc (by simp) _
  have XC := Lib.hid (blk_alloc (blk_new w3 (.cells (cf (.slice C0 cmap.length e0) (.slice C1 cgrp.length e1) (.slice C2 uobj.length e2) 100 a3 a4 a5 a6 a7 a8 1024 1024 a11) 27 (0, 0))) (.cells (cf (.slice D0 cmap.length f0) (.slice D1 cgrp.length f1) (.slice D2 uobj.length f2) 100 a3 a4 a5 a6 a7 a8 1024 1024 a11) 27 (0, 0)))
  have XD := Lib.hid (blk_new (w3.alloc (.cells (cf (.slice C0 cmap.length e0) (.slice C1 cgrp.length e1) (.slice C2 uobj.length e2) 100 a3 a4 a5 a6 a7 a8 1024 1024 a11) 27 (0, 0))) (.cells (cf (.slice D0 cmap.length f0) (.slice D1 cgrp.length f1) (.slice D2 uobj.length f2) 100 a3 a4 a5 a6 a7 a8 1024 1024 a11) 27 (0, 0)))
  rw [show (w3.alloc (.cells (cf (.slice C0 cmap.length e0) (.slice C1 cgrp.length e1) (.slice C2 uobj.length e2) 100 a3 a4 a5 a6 a7 a8 1024 1024 a11) 27 (0, 0))).heap.size = w3.heap.size + 1 by simp] at XD
  change Calls _ _ _ ((w3.alloc (.cells (cf (.slice C0 cmap.length e0) (.slice C1 cgrp.length e1) (.slice C2 uobj.length e2) 100 a3 a4 a5 a6 a7 a8 1024 1024 a11) 27)).alloc (.cells (cf (.slice D0 cmap.length f0) (.slice D1 cgrp.length f1) (.slice D2 uobj.length f2) 100 a3 a4 a5 a6 a7 a8 1024 1024 a11) 27)) _
  have B4 := Lib.hid (below_then B3.out B3.out.size ho)
  have BC4 := Lib.hid (below_then BC.out BC.out.size ho)
  have R4 := Lib.hid (Kd.C_below R3.out ho)
  have D04 := Lib.hid (Kd.R_below DR.out.1 ho)
  have D24 := Lib.hid (Kd.R_below DR.out.2 ho)
  have G3 := Lib.hid (show w2.heap.size ≤ w3.heap.size from BC.out.size)
  generalize (w3.alloc (.cells (cf (.slice C0 cmap.length e0) (.slice C1 cgrp.length e1) (.slice C2 uobj.length e2) 100 a3 a4 a5 a6 a7 a8 1024 1024 a11) 27)).alloc (.cells (cf (.slice D0 cmap.length f0) (.slice D1 cgrp.length f1) (.slice D2 uobj.length f2) 100 a3 a4 a5 a6 a7 a8 1024 1024 a11) 27) = W4 at *
  clear ho BC B3 R3 DR
  refine (all_r ks gl EG.out A c0 _ R4.out HC.out).mono ?_
  rintro e w5 ⟨G0, A1, g0, g1, rfl, hR, hb⟩
  have GR := Lib.hid hR
  have BC5 := Lib.hid (below_then BC4.out BC4.out.size hb)
  have B5 := Lib.hid (below_then B4.out B4.out.size hb)
  have XC5 := Lib.hid (blk_below XC.out hb)
  have XD5 := Lib.hid (blk_below XD.out hb)
  have D05 := Lib.hid (Kd.R_below D04.out hb)
  have D25 := Lib.hid (Kd.R_below D24.out hb)
  clear hR hb BC4 B4 XC XD D04 D24 R4
  go_upto_region 6 with (first | ((with_reducible refine gate_builtin (b := .append) (xs := #[.const (.slice none 0 0), .tmp 23]) rfl ?_); at_builtin; go_must (refine Kd.R_append_rows k48 (w0 := w5) w5.heap.size rfl (.const (.slice none 0 0)) (.tmp 23) 23 48 (.agg #[(.int .i64 0), (.int .i64 0), (.int .i64 0)]) 24 rfl Try.underlying23 info48 rfl (by decide) (by omega) (.slice none 0 0) ([] : List S48) gl _ _ _ (fun _ => True) (fun _ => False) rfl rfl ?aO ?aR (fun (x : S48) (cs : List Value) (h : k48.K w5 x cs) => by rw [k48_open h]; exact k48_mkM _ _ _ x) (fun _ h => h.elim) (fun _ _ => trivial) ?aB ?aS ?aL ?_; (case aO => exact Kd.R_nil _ _ _ _ _); (case aR => exact (row48 GR.out).2.1); (case aB => exact Below.refl _ _); (case aS => exact Nat.le_refl _); (case aL => have := GL.out; simp; omega); intro v24 w6 ho hb hg hat; rw [List.nil_append] at ho; obtain ⟨E0, ge, rfl⟩ := Kd.R_slice ho; have ER := Lib.hid ho; have HB6 := Lib.hid hb; have XC6 := Lib.hid (blk_below XC5.out hb); have XD6 := Lib.hid (blk_below XD5.out hb); have q1 := (blk_cell XC6.out 1).trans rfl; have q2 := blk_frozen XC6.out 1; have q3 := (blk_cell XD6.out 1).trans rfl; have q4 := blk_frozen XD6.out 1; clear ho hb hg hat)))
  have HS := Lib.hid (St.make (gc := w3.heap.size) B2.out BC5.out G3.out (row46 CR.out.1).2 (row50 CR.out.2).2 XC6.out XD6.out GR.out ER.out HB6.out D05.out D25.out GL.out)
  generalize (w6.setCell ⟨w3.heap.size, 1, none⟩ (.slice G0 gl.length g0)).setCell ⟨w3.heap.size + 1, 1, none⟩ (.slice E0 gl.length ge) = W7 at *
  clear q1 q2 q3 q4 XC6 XD6 XC5 XD5 B5 D05 D25 BC5 GR ER HB6 HR HC EC EG CR
  obtain ⟨q0, q1, q2, q3, q4, q5, q6, q7, q8, q9, q10, q11, q12⟩ := cfc HS.out.xc
  obtain ⟨r0, r1, r2, r3, r4, r5, r6, r7, r8, r9, r10, r11, r12⟩ := cfc HS.out.xd
  go_wp2_with (fail)
  refine (same_c W7 C0 G0 C2 D0 E0 D2 e0 g0 e2 f0 ge f2 cmap cmap gl gl uobj uobj 100 a3 a4 a5 a6 a7 a8 1024 1024 a11 100 a3 a4 a5 a6 a7 a8 1024 1024 a11 (by decide) (by have := GL.out; omega) (by decide) HS.out.rc HS.out.rd true (by simp)).mono ?_
  rintro e w8 ⟨rfl, hb⟩
  have HS8 := Lib.hid (HS.out.below hb)
  clear hb HS q0 q1 q2 q3 q4 q5 q6 q7 q8 q9 q10 q11 q12 r0 r1 r2 r3 r4 r5 r6 r7 r8 r9 r10 r11 r12
  go_wp2_with (fail)
  refine (usual_s _).mono ?_
  rintro e w9 ⟨X0, X1, X2, x0, x1, x2, rfl, hx, hb⟩
  have HX := Lib.hid hx
  have HS9 := Lib.hid (HS8.out.below hb)
  clear hb hx HS8
  go_wp2_with (fail)
  refine (usual_r _).mono ?_
  rintro e w10 ⟨Y0, Y1, Y2, y0, y1, y2, rfl, hy, hb⟩
  have HX2 := Lib.hid (HX.out.below hb)
  have HY := Lib.hid hy
  have HS10 := Lib.hid (HS9.out.below hb)
  clear hb hy HS9 HX
  go_wp2_with (fail)
  refine (refSame_c _ X0 X1 X2 Y0 Y1 Y2 x0 x1 x2 y0 y1 y2 umap [] uobj 60000 100 32 8 10000 100 500 1024 1024 0 (by decide) (by decide) (by decide) HX2.out HY.out).mono ?_
  rintro e w11 ⟨rfl, hb⟩
  have HS11 := Lib.hid (HS10.out.below hb)
  clear hb HS10 HX2 HY
  go_wp2_with (fail)
  refine (within_b p2 1000 (by omega) (by omega) _).mono ?_
  rintro e w12 ⟨rfl, hb⟩
  obtain ⟨n, hn⟩ : ∃ n, n = 1 + p2 % 1000 := ⟨_, rfl⟩
  have N := Lib.hid (show 1 ≤ n ∧ n ≤ 1000 by omega)
  have HS12 := Lib.hid (HS11.out.below hb)
  have hw : 1 + p2 % 1000 = n := hn.symm
  have HW := Lib.hid hw
  clear hb HS11 hn hw
  go_wp2_with (fail)
  rw [HW.out]
  refine (within_b p1 14 (by omega) (by omega) _).mono ?_
  rintro e w13 ⟨rfl, hb⟩
  obtain ⟨k, hk⟩ : ∃ k, k = p1 % 14 := ⟨_, rfl⟩
  have K := Lib.hid (show 0 ≤ k ∧ k < 14 by omega)
  rw [← hk]
  have HS13 := Lib.hid (HS12.out.below hb)
  clear hb HS12 hk HW
  go_upto_block 0 with (fail)
  go_cut [] (fun wc => Aside0 (Fin w w2 w3.heap.size C0 C2 G0 e0 e2 g0 gl a3 a4 a5 a6 a7 a8 a11 wc))
  case first =>
    obtain ⟨r0, r1, r2, r3, r4, r5, r6, r7, r8, r9, r10, r11, r12⟩ := cfc HS13.out.xd
    have zf := fun j => blk_frozen HS13.out.xd j
    have f2_ := zf 2
    have f3_ := zf 3
    have f4_ := zf 4
    have f5_ := zf 5
    have f6_ := zf 6
    have f7_ := zf 7
    have f8_ := zf 8
    have f9_ := zf 9
    have f10_ := zf 10
    have f11_ := zf 11
    clear zf
    have hk14 := K.out
    obtain rfl | rfl | rfl | rfl | rfl | rfl | rfl | rfl | rfl | rfl | rfl | rfl | rfl | rfl : k = 0 ∨ k = 1 ∨ k = 2 ∨ k = 3 ∨ k = 4 ∨ k = 5 ∨ k = 6 ∨ k = 7 ∨ k = 8 ∨ k = 9 ∨ k = 10 ∨ k = 11 ∨ k = 12 ∨ k = 13 := by omega
    all_goals clear hk14
    · go_wp2
      go_meet
      exact ⟨HS13.out.num 3 _ 100 (wrap64 (a3 + n)) a4 a5 a6 a7 a8 1024 1024 a11 rfl (fun h => w_ne _ _ N.out h.2.1)⟩
    · go_wp2
      go_meet
      exact ⟨HS13.out.num 4 _ 100 a3 (wrap64 (a4 + n)) a5 a6 a7 a8 1024 1024 a11 rfl (fun h => w_ne _ _ N.out h.2.2.1)⟩
    · go_wp2
      go_meet
      exact ⟨HS13.out.num 5 _ 100 a3 a4 (wrap64 (a5 + n)) a6 a7 a8 1024 1024 a11 rfl (fun h => w_ne _ _ N.out h.2.2.2.1)⟩
    · go_wp2
      go_meet
      exact ⟨HS13.out.num 6 _ 100 a3 a4 a5 (wrap64 (a6 + n)) a7 a8 1024 1024 a11 rfl (fun h => w_ne _ _ N.out h.2.2.2.2.1)⟩
    · go_wp2
      go_meet
      exact ⟨HS13.out.num 7 _ 100 a3 a4 a5 a6 (wrap64 (a7 + n)) a8 1024 1024 a11 rfl (fun h => w_ne _ _ N.out h.2.2.2.2.2.1)⟩
    · go_wp2
      go_meet
      exact ⟨HS13.out.num 8 _ 100 a3 a4 a5 a6 a7 (wrap64 (a8 + n)) 1024 1024 a11 rfl (fun h => w_ne _ _ N.out h.2.2.2.2.2.2.1)⟩
    · go_wp2
      go_meet
      exact ⟨HS13.out.num 9 _ 100 a3 a4 a5 a6 a7 a8 (wrap64 (1024 + n)) 1024 a11 rfl (fun h => w_ne _ _ N.out h.2.2.2.2.2.2.2.1)⟩
    · go_wp2
      go_meet
      exact ⟨HS13.out.num 10 _ 100 a3 a4 a5 a6 a7 a8 1024 (wrap64 (1024 + n)) a11 rfl (fun h => w_ne _ _ N.out h.2.2.2.2.2.2.2.2.1)⟩
    · go_wp2
      go_meet
      exact ⟨HS13.out.num 2 _ (wrap64 (100 + n)) a3 a4 a5 a6 a7 a8 1024 1024 a11 rfl (fun h => w_ne _ _ N.out h.1)⟩
    · go_wp2
      go_meet
      exact ⟨HS13.out.num 11 _ 100 a3 a4 a5 a6 a7 a8 1024 1024 (IntKind.u64.wrap (a11 + IntKind.u64.wrap n)) rfl (fun h => u_ne _ _ N.out h.2.2.2.2.2.2.2.2.2)⟩
    · go_wp2_with (first | ((with_reducible refine gate_builtin (b := .append) (xs := #[.tmp 116, .tmp 119]) rfl ?_); at_builtin; go_must (refine Kd.R_append k46 (w0 := w2) w2.heap.size rfl (.tmp 116) (.tmp 119) 22 46 (.agg #[(.int .i64 0), (.int .i64 0), (.int .i64 0)]) 24 rfl Try.underlying22 info46 rfl (by decide) (by omega) (.slice D0 cmap.length f0) cmap (⟨n, 0, 0⟩ : S46) [.int .i64 n, .int .i64 0, .int .i64 0] (fun _ => True) (fun _ => False) rfl rfl ?aP (fun _ hk => hk.elim) ?aF ?aO ?aB ?aS ?aL ?_; (case aP => exact k46_mkM _ _ _ (⟨n, 0, 0⟩ : S46)); (case aF => exact fun _ _ => trivial); (case aO => exact HS13.out.d0); (case aB => exact HS13.out.b2); (case aS => exact HS13.out.b2.size); (case aL => have h := HS13.out.gl; have h5 : cmap.length = 5 := rfl; omega); intro v1 w14 ho hb hg hat; obtain ⟨N0, d0, e1⟩ := Kd.R_slice ho; obtain ⟨m, hm⟩ : ∃ m, m = (cmap ++ [(⟨n, 0, 0⟩ : S46)]).length := ⟨_, rfl⟩; rw [← hm] at e1; have FN := Lib.hid (HS13.out.map v1 _ ho hb hg); have xd := (hg.block (w3.heap.size + 1) (blk_lt HS13.out.xd) (Kd.R_ne HS13.out.d0 HS13.out.xd (by decide))).trans HS13.out.xd; have s1 := (blk_cell xd 0).trans rfl; have s2 := blk_frozen xd 0; clear ho hb hg hat xd hm; subst e1)))
      go_meet
      exact ⟨FN.out⟩
    · go_wp2_with (first | ((with_reducible refine gate_builtin (b := .append) (xs := #[.tmp 125, .tmp 128]) rfl ?_); at_builtin; go_must (refine Kd.R_append k48 (w0 := w2) w2.heap.size rfl (.tmp 125) (.tmp 128) 23 48 (.agg #[(.int .i64 0), (.int .i64 0), (.int .i64 0)]) 24 rfl Try.underlying23 info48 rfl (by decide) (by omega) (.slice E0 gl.length ge) gl (⟨n, 0, 0⟩ : S48) [.int .i64 n, .int .i64 0, .int .i64 0] (fun _ => True) (fun _ => False) rfl rfl ?aP (fun _ hk => hk.elim) ?aF ?aO ?aB ?aS ?aL ?_; (case aP => exact k48_mkM _ _ _ (⟨n, 0, 0⟩ : S48)); (case aF => exact fun _ _ => trivial); (case aO => exact HS13.out.oe); (case aB => exact HS13.out.b2); (case aS => exact HS13.out.b2.size); (case aL => have h := HS13.out.gl; omega); intro v1 w14 ho hb hg hat; obtain ⟨N0, d0, e1⟩ := Kd.R_slice ho; obtain ⟨m, hm⟩ : ∃ m, m = (gl ++ [(⟨n, 0, 0⟩ : S48)]).length := ⟨_, rfl⟩; rw [← hm] at e1; have FN := Lib.hid (HS13.out.grp v1 _ ho hb hg); have xd := (hg.block (w3.heap.size + 1) (blk_lt HS13.out.xd) (Kd.R_ne HS13.out.oe HS13.out.xd (by decide))).trans HS13.out.xd; have s1 := (blk_cell xd 1).trans rfl; have s2 := blk_frozen xd 1; clear ho hb hg hat xd hm; subst e1)))
      go_meet
      exact ⟨FN.out⟩
    · go_wp2_with (first | ((with_reducible refine gate_builtin (b := .append) (xs := #[.tmp 134, .tmp 137]) rfl ?_); at_builtin; go_must (refine Kd.R_append k50 (w0 := w2) w2.heap.size rfl (.tmp 134) (.tmp 137) 25 50 (.agg #[(.int .i64 0), (.string ⟨#[]⟩)]) 24 rfl Try.underlying25 info50 rfl (by decide) (by omega) (.slice D2 uobj.length f2) uobj (⟨n, ⟨#[]⟩⟩ : S50) [.int .i64 n, .string ⟨#[]⟩] (fun _ => True) (fun _ => False) rfl rfl ?aP (fun _ hk => hk.elim) ?aF ?aO ?aB ?aS ?aL ?_; (case aP => exact k50_mkM _ _ _ (⟨n, ⟨#[]⟩⟩ : S50)); (case aF => exact fun _ _ => trivial); (case aO => exact HS13.out.d2); (case aB => exact HS13.out.b2); (case aS => exact HS13.out.b2.size); (case aL => have h := HS13.out.gl; have h5 : uobj.length = 3 := rfl; omega); intro v1 w14 ho hb hg hat; obtain ⟨N0, d0, e1⟩ := Kd.R_slice ho; obtain ⟨m, hm⟩ : ∃ m, m = (uobj ++ [(⟨n, ⟨#[]⟩⟩ : S50)]).length := ⟨_, rfl⟩; rw [← hm] at e1; have FN := Lib.hid (HS13.out.obj v1 _ ho hb hg); have xd := (hg.block (w3.heap.size + 1) (blk_lt HS13.out.xd) (Kd.R_ne HS13.out.d2 HS13.out.xd (by decide))).trans HS13.out.xd; have s1 := (blk_cell xd 12).trans rfl; have s2 := blk_frozen xd 12; clear ho hb hg hat xd hm; subst e1)))
      go_meet
      exact ⟨FN.out⟩
    · obtain ⟨g, cap, eD, hgb, _, _⟩ := Kd.R_form HS13.out.d0 (by decide)
      obtain ⟨rfl, rfl⟩ : D0 = some ⟨g, 0, none⟩ ∧ f0 = cap := by injection eD with h1 h2 h3; exact ⟨h1, h3⟩
      have CL := Lib.hid (show (cmap.length : Int) = 5 from rfl)
      obtain ⟨i, hi⟩ : ∃ i, i = n % (cmap.length : Int) := ⟨_, rfl⟩
      have hi5 : 0 ≤ i ∧ i < (cmap.length : Int) := by rw [hi, CL.out]; omega
      have HI := Lib.hid hi
      have FN := Lib.hid (HS13.out.at i hi5.1 hi5.2 n N.out)
      obtain ⟨c1, c2, _, _⟩ := elem46 HS13.out.d0 i hi5.1 hi5.2 0
      have p0_ : (0 ≤ i) = True := eq_true hi5.1
      have q0_ : (i < (cmap.length : Int)) = True := eq_true hi5.2
      clear hi hi5 eD hgb
      go_wp2_with (fail)
      go_region_law (first | (go_simp; go_at_call 12; refine (within_calls n (cmap.length : Int) (by have := CL.out; omega) (by have := CL.out; omega) _).mono ?_; rintro e w14 ⟨rfl, nd, rfl⟩; rw [← HI.out]))
      all_goals
        go_wp2
        go_meet
        rw [show IntKind.i64.wrap ((rd_T46 cmap i).f1 + n) = wrap64 ((rd_T46 cmap i).f1 + n) from w64i _]
        exact ⟨Fin.below FN.out (pw_below_drewN (Below.refl _ _) _)⟩
  case rest =>
  have HF := hcut
  clear hcut
  obtain ⟨E0, E1, E2, h0, h1, h2, m0, m1, m2, y2, y3, y4, y5, y6, y7, y8, y9, y10, y11, hx⟩ := HF.out
  have HX := Lib.hid hx
  obtain ⟨q0, q1, q2, q3, q4, q5, q6, q7, q8, q9, q10, q11, q12⟩ := cfc (show wc.heap[w3.heap.size]? = some (.cells (cf (.slice C0 cmap.length e0) (.slice G0 gl.length g0) (.slice C2 uobj.length e2) 100 a3 a4 a5 a6 a7 a8 1024 1024 a11) 27 (0, 0)) from HX.out.1)
  obtain ⟨r0, r1, r2, r3, r4, r5, r6, r7, r8, r9, r10, r11, r12⟩ := cfc HX.out.2.1
  clear hx HF
  go_wp2_with (fail)
  refine (same_c wc C0 G0 C2 E0 E1 E2 e0 g0 e2 h0 h1 h2 cmap m0 gl m1 uobj m2 100 a3 a4 a5 a6 a7 a8 1024 1024 a11 y2 y3 y4 y5 y6 y7 y8 y9 y10 y11 (by decide) (by have := GL.out; omega) (by decide) HX.out.2.2.1 HX.out.2.2.2.1 false (by simp only [Bool.false_eq_true, false_iff]; exact HX.out.2.2.2.2.2.1)).mono ?_
  rintro e w15 ⟨rfl, hb⟩
  have XC15 := Lib.hid (blk_below HX.out.1 hb)
  have XD15 := Lib.hid (blk_below HX.out.2.1 hb)
  have RC15 := Lib.hid (HX.out.2.2.1.below hb)
  have RD15 := Lib.hid (HX.out.2.2.2.1.below hb)
  have B15 := Lib.hid (below_then HX.out.2.2.2.2.2.2 HX.out.2.2.2.2.2.2.size hb)
  clear hb q0 q1 q2 q3 q4 q5 q6 q7 q8 q9 q10 q11 q12 r0 r1 r2 r3 r4 r5 r6 r7 r8 r9 r10 r11 r12
  obtain ⟨q0, q1, q2, q3, q4, q5, q6, q7, q8, q9, q10, q11, q12⟩ := cfc (show w15.heap[w3.heap.size]? = some (.cells (cf (.slice C0 cmap.length e0) (.slice G0 gl.length g0) (.slice C2 uobj.length e2) 100 a3 a4 a5 a6 a7 a8 1024 1024 a11) 27 (0, 0)) from XC15.out)
  obtain ⟨r0, r1, r2, r3, r4, r5, r6, r7, r8, r9, r10, r11, r12⟩ := cfc XD15.out
  go_wp2_with (fail)
  refine (same_c w15 E0 E1 E2 C0 G0 C2 h0 h1 h2 e0 g0 e2 m0 cmap m1 gl m2 uobj y2 y3 y4 y5 y6 y7 y8 y9 y10 y11 100 a3 a4 a5 a6 a7 a8 1024 1024 a11 HX.out.2.2.2.2.1.1 HX.out.2.2.2.2.1.2.1 HX.out.2.2.2.2.1.2.2 RD15.out RC15.out false (by simp only [Bool.false_eq_true, false_iff]; rintro ⟨⟨t2, t3, t4, t5, t6, t7, t8, t9, t10, t11⟩, t12, t13, t14⟩; exact HX.out.2.2.2.2.2.1 ⟨⟨t2.symm, t3.symm, t4.symm, t5.symm, t6.symm, t7.symm, t8.symm, t9.symm, t10.symm, t11.symm⟩, t12.symm, t13.symm, t14.symm⟩)).mono ?_
  rintro e w16 ⟨rfl, hb⟩
  have B16 := Lib.hid (below_then B15.out B15.out.size hb)
  clear hb
  go_wp2
  go_ret
  exact ⟨rfl, B16.out⟩
end Go.Proofs.Ytjlbgopgeepiaaa.Conf
namespace Go.Proofs.Ytjlbgopgeepiaaa.PConf
open Go.RowKit Go.Proofs.YtjlbgopgeepiaaaW.PrintWords Go.Proofs.YtjlbgopgeepiaaaW.PrintLast Go.Proofs.YtjlbgopgeepiaaaW.PrintMore
attribute [local go_sem] max2_int min2_int max_two min_two max_three min_three max_four min_four plus_setCell_drewN plus_cell_same   -- for this text's walks alone
set_option linter.unusedVariables false
set_option linter.unusedSimpArgs false
def busbarlaw15_ConfSames.f (l0 : List Int) (a1 : Int) (a2 : Int) : Option Bool := if l0.all (fun x => (Lit.int .i64 x).wf) then some true else none
theorem busbarlaw15_ConfSames.calls (A0 : Option Addr) (c0 : Nat) (l0 : List Int) (a1 : Int) (a2 : Int) (r : Bool) (w : World) (hr0 : Kd.C (Kd.int .i64) w A0 l0.length l0) (hc0 : l0.length ≤ c0) (h : busbarlaw15_ConfSames.f l0 a1 a2 = some r) : Calls Try.prog 5 #[.slice A0 l0.length c0, .int .i64 a1, .int .i64 a2] w fun e w' => e = .returned (.bool r) ∧ Below w.heap.size w w' := by
 unfold busbarlaw15_ConfSames.f at h
 split at h
 ·
  rename_i hg
  obtain rfl := Option.some.inj h
  rw [List.all_eq_true] at hg
  exact Go.Proofs.Ytjlbgopgeepiaaa.Conf.ConfSames_calls A0 c0 l0 a1 a2 w hr0 hc0 (fun x hx => Go.Proofs.Ytjlbgopgeepiaaa.Num.wf_i64 (hg x hx))
 ·
  cases h
def busbarlaw15_ConfSames.Pure : Prop := ∀ (l0 : List Int) (a1 : Int) (a2 : Int), l0.length ≤ maxLen → l0.length * 8 ≤ 140737488351232 → (∀ x ∈ l0, (Lit.int .i64 x).wf = true) → (Lit.int .i64 a1).wf = true → (Lit.int .i64 a2).wf = true → busbarlaw15_ConfSames.f l0 a1 a2 = some true
theorem busbarlaw15_ConfSames.walk (P : busbarlaw15_ConfSames.Pure) (a0 : Option Addr) (len0 cap0 : Nat) (z0 : List Int) (a1 : Int) (a2 : Int) (w : World) (w0 : (a0 = none ∧ len0 = 0 ∧ cap0 = 0 ∧ z0 = []) ∨ ∃ x, a0 = some x ∧ len0 ≤ cap0 ∧ cap0 ≤ maxLen ∧ z0.length = cap0 ∧ (∀ i, i < z0.length → w.cell? (x.add i) = some (.int .i64 (z0.getD i 0))) ∧ ∀ n ∈ z0, (Lit.int .i64 n).wf = true) (y0 : len0 * 8 ≤ 140737488351232) (w1 : (Lit.int .i64 a1).wf = true) (w2 : (Lit.int .i64 a2).wf = true) :
  Calls Try.prog 5 #[.slice a0 len0 cap0, .int .i64 a1, .int .i64 a2] w fun e w' => e = .returned (.bool true) ∧ Below w.heap.size w w' := by
 obtain ⟨l0, rfl, hr0, hm0, hw0, hc0⟩ := ReadsInt.ofRowC w0
 have h := P l0 a1 a2 hm0 y0 hw0 w1 w2
 refine (busbarlaw15_ConfSames.calls _ _ l0 a1 a2 true w (Kd.C_of_reads (d := (0 : Int)) (h1 := fun _ => rfl) hr0) hc0 h).mono ?_
 rintro e w' ⟨rfl, hd⟩
 exact ⟨rfl, hd⟩
end Go.Proofs.Ytjlbgopgeepiaaa.PConf
namespace Go.Proofs.Ytjlbgopgeepiaaa.Pure
open Go.RowKit Go.Proofs.Ytjlbgopgeepiaaa.PConf
theorem ConfSames : busbarlaw15_ConfSames.Pure := by
  unfold busbarlaw15_ConfSames.Pure
  intro l0 a1 a2 _ _ h0 _ _
  unfold busbarlaw15_ConfSames.f
  rw [if_pos]
  rw [List.all_eq_true]
  exact fun x hx => h0 x hx
end Go.Proofs.Ytjlbgopgeepiaaa.Pure
