/- Words and walks for ConfChecks (made of the session's own texts; each part by itself). -/
import Derived.Test.YtjlbgopgeepiaaaZConfChecks4
namespace Go.Proofs.Ytjlbgopgeepiaaa.PConf
open Go.RowKit Go.Proofs.YtjlbgopgeepiaaaW.PrintWords Go.Proofs.YtjlbgopgeepiaaaW.PrintLast Go.Proofs.YtjlbgopgeepiaaaW.PrintMore
attribute [local go_sem] max2_int min2_int max_two min_two max_three min_three max_four min_four plus_setCell_drewN plus_cell_same   -- for this text's walks alone
set_option linter.unusedVariables false
set_option linter.unusedSimpArgs false
mutual
def busbarlaw0_Conf.j0 : Nat → List Int → List (S46) → List (S48) → Int → Int → Int → Int → Int → Int → Int → Int → Int → Int → List (S50) → Option ((List (S46)) × (List (S48)) × Int × Int × Int × Int × Int × Int × Int × Int × Int × Int × (List (S50)))
 | 0, _, _, _, _, _, _, _, _, _, _, _, _, _, _ => none
 | k + 1, x0, x231000, x231001, x231002, x231003, x231004, x231005, x231006, x231007, x231008, x231009, x231010, x231011, x231012 => (busbarlaw0_At.f x0 2).bind fun t247 => ((busbarlaw0_Within.f t247 4).bind fun t248 => (if t248 = 0 then ((busbarlaw0_At.f x0 2).bind fun t249 => ((busbarlaw0_Digit.f t249 4 60).bind fun t250 => (busbarlaw0_Conf.j1 k x0 x231000 x231001 x231002 x231003 x231004 x231005 t250 x231007 x231008 x231009 x231010 x231011 x231012))) else (busbarlaw0_Conf.j1 k x0 x231000 x231001 x231002 x231003 x231004 x231005 x231006 x231007 x231008 x231009 x231010 x231011 x231012)))
def busbarlaw0_Conf.j1 : Nat → List Int → List (S46) → List (S48) → Int → Int → Int → Int → Int → Int → Int → Int → Int → Int → List (S50) → Option ((List (S46)) × (List (S48)) × Int × Int × Int × Int × Int × Int × Int × Int × Int × Int × (List (S50)))
 | 0, _, _, _, _, _, _, _, _, _, _, _, _, _, _ => none
 | k + 1, x0, x231000, x231001, x231002, x231003, x231004, x231005, x231006, x231007, x231008, x231009, x231010, x231011, x231012 => (busbarlaw0_At.f x0 2).bind fun t251 => ((busbarlaw0_Digit.f t251 240 6).bind fun t252 => ((busbarlaw0_At.f x0 3).bind fun t253 => ((busbarlaw0_Within.f t253 9).bind fun t254 => ((busbarlaw0_At.f x0 3).bind fun t255 => ((busbarlaw0_Digit.f t255 9 6).bind fun t256 => (if t256 = 0 then (some (x231000, x231001, x231002, x231003, wrap64 (1 + t252), x231005, x231006, x231007, x231008, x231009, x231010, IntKind.u64.wrap (18446744073709551615 - (IntKind.u64.wrap (t254))), x231012)) else (some (x231000, x231001, x231002, x231003, wrap64 (1 + t252), x231005, x231006, x231007, x231008, x231009, x231010, IntKind.u64.wrap (t254), x231012))))))))
end
def busbarlaw0_Conf.f (k : Nat) (l0 : List Int) : Option ((List (S46)) × (List (S48)) × Int × Int × Int × Int × Int × Int × Int × Int × Int × Int × (List (S50))) := (busbarref12_Usual.f k).bind fun bt211 => ((some (([(⟨0, 0, 40⟩ : S46), (⟨1, 0, 40⟩ : S46), (⟨2, 0, 20⟩ : S46), (⟨2, 24, 40⟩ : S46), (⟨3, 0, 40⟩ : S46)] : List (S46)) : List (S46))).bind fun y231 => ((some (([(⟨2, 4, 2⟩ : S48), (⟨2, 8, 4⟩ : S48), (⟨3, 4, 4⟩ : S48)] : List (S48)) : List (S48))).bind fun y234 => ((busbarlaw0_At.f l0 0).bind fun t237 => ((busbarlaw0_Within.f t237 12).bind fun t238 => ((busbarlaw0_At.f l0 0).bind fun t239 => ((busbarlaw0_Digit.f t239 12 5).bind fun t240 => ((busbarlaw0_At.f l0 1).bind fun t241 => ((busbarlaw0_Within.f t241 6).bind fun t242 => ((busbarlaw0_At.f l0 1).bind fun t243 => ((busbarlaw0_Digit.f t243 6 20).bind fun t244 => ((busbarlaw0_At.f l0 1).bind fun t245 => ((busbarlaw0_Digit.f t245 120 3).bind fun t246 => (if t246 > 0 then (busbarlaw0_Conf.j0 k l0 y231 y234 100 (wrap64 (1 + t238)) bt211.2.2.2.2.1 t240 2000 50 500 bt211.2.2.2.2.2.2.2.2.2.1 bt211.2.2.2.2.2.2.2.2.2.2.1 bt211.2.2.2.2.2.2.2.2.2.2.2.1 bt211.2.2.2.2.2.2.2.2.2.2.2.2) else (busbarlaw0_Conf.j0 k l0 y231 y234 100 (wrap64 (1 + t238)) bt211.2.2.2.2.1 t240 2000 (wrap64 (1 + t242)) (wrap64 (1 + t244)) bt211.2.2.2.2.2.2.2.2.2.1 bt211.2.2.2.2.2.2.2.2.2.2.1 bt211.2.2.2.2.2.2.2.2.2.2.2.1 bt211.2.2.2.2.2.2.2.2.2.2.2.2))))))))))))))
theorem busbarlaw0_Conf.mono_l : ∀ k, (∀ y0 y1 y2 y3 y4 y5 y6 y7 y8 y9 y10 y11 y12 y13, LeO (busbarlaw0_Conf.j0 k y0 y1 y2 y3 y4 y5 y6 y7 y8 y9 y10 y11 y12 y13) (busbarlaw0_Conf.j0 (k + 1) y0 y1 y2 y3 y4 y5 y6 y7 y8 y9 y10 y11 y12 y13)) ∧ (∀ y0 y1 y2 y3 y4 y5 y6 y7 y8 y9 y10 y11 y12 y13, LeO (busbarlaw0_Conf.j1 k y0 y1 y2 y3 y4 y5 y6 y7 y8 y9 y10 y11 y12 y13) (busbarlaw0_Conf.j1 (k + 1) y0 y1 y2 y3 y4 y5 y6 y7 y8 y9 y10 y11 y12 y13))
 | 0 => ⟨fun _ _ _ _ _ _ _ _ _ _ _ _ _ _ r h => by simp [busbarlaw0_Conf.j0] at h, fun _ _ _ _ _ _ _ _ _ _ _ _ _ _ r h => by simp [busbarlaw0_Conf.j1] at h⟩
 | k + 1 => by
  obtain ⟨ih0, ih1⟩ := busbarlaw0_Conf.mono_l k
  refine ⟨?_, ?_⟩
  ·
   intro y0 y1 y2 y3 y4 y5 y6 y7 y8 y9 y10 y11 y12 y13
   unfold busbarlaw0_Conf.j0
   repeat' first
   | (with_reducible exact ih0 _ _ _ _ _ _ _ _ _ _ _ _ _ _)
   | (with_reducible exact ih1 _ _ _ _ _ _ _ _ _ _ _ _ _ _)
   | (with_reducible exact busbarref12_Usual.mono _)
   | (with_reducible exact LeO.refl _)
   | (with_reducible exact LeO.none _)
   | (with_reducible refine LeO.ite ?_ ?_)
   | (with_reducible refine LeO.bind ?_ (fun _ => ?_))
   | exact ih0 _ _ _ _ _ _ _ _ _ _ _ _ _ _
   | exact ih1 _ _ _ _ _ _ _ _ _ _ _ _ _ _
   | exact busbarref12_Usual.mono _
   | exact LeO.none _
   | refine LeO.ite ?_ ?_
   | refine LeO.bind ?_ (fun _ => ?_)
  ·
   intro y0 y1 y2 y3 y4 y5 y6 y7 y8 y9 y10 y11 y12 y13
   unfold busbarlaw0_Conf.j1
   repeat' first
   | (with_reducible exact ih0 _ _ _ _ _ _ _ _ _ _ _ _ _ _)
   | (with_reducible exact ih1 _ _ _ _ _ _ _ _ _ _ _ _ _ _)
   | (with_reducible exact busbarref12_Usual.mono _)
   | (with_reducible exact LeO.refl _)
   | (with_reducible exact LeO.none _)
   | (with_reducible refine LeO.ite ?_ ?_)
   | (with_reducible refine LeO.bind ?_ (fun _ => ?_))
   | exact ih0 _ _ _ _ _ _ _ _ _ _ _ _ _ _
   | exact ih1 _ _ _ _ _ _ _ _ _ _ _ _ _ _
   | exact busbarref12_Usual.mono _
   | exact LeO.none _
   | refine LeO.ite ?_ ?_
   | refine LeO.bind ?_ (fun _ => ?_)
theorem busbarlaw0_Conf.mono : ∀ a0 k, LeO (busbarlaw0_Conf.f k a0) (busbarlaw0_Conf.f (k + 1) a0) := by
 intro a0 k
 obtain ⟨ih0, ih1⟩ := busbarlaw0_Conf.mono_l k
 unfold busbarlaw0_Conf.f
 repeat' first
   | (with_reducible exact ih0 _ _ _ _ _ _ _ _ _ _ _ _ _ _)
   | (with_reducible exact ih1 _ _ _ _ _ _ _ _ _ _ _ _ _ _)
   | (with_reducible exact busbarref12_Usual.mono _)
   | (with_reducible exact LeO.refl _)
   | (with_reducible exact LeO.none _)
   | (with_reducible refine LeO.ite ?_ ?_)
   | (with_reducible refine LeO.bind ?_ (fun _ => ?_))
   | exact ih0 _ _ _ _ _ _ _ _ _ _ _ _ _ _
   | exact ih1 _ _ _ _ _ _ _ _ _ _ _ _ _ _
   | exact busbarref12_Usual.mono _
   | exact LeO.none _
   | refine LeO.ite ?_ ?_
   | refine LeO.bind ?_ (fun _ => ?_)
set_option maxHeartbeats 8000000 in
set_option maxRecDepth 100000 in
theorem busbarlaw0_Conf.calls (k : Nat) (A0 : Option Addr) (c0 : Nat) (l0 : List Int) (r1 : List (S46)) (r2 : List (S48)) (r3 : Int) (r4 : Int) (r5 : Int) (r6 : Int) (r7 : Int) (r8 : Int) (r9 : Int) (r10 : Int) (r11 : Int) (r12 : Int) (r13 : List (S50)) (w : World) (hr0 : Kd.C (Kd.int .i64) w A0 l0.length l0) (hc0 : l0.length ≤ c0) (h : busbarlaw0_Conf.f k l0 = some (r1, r2, r3, r4, r5, r6, r7, r8, r9, r10, r11, r12, r13)) :
  Calls Try.prog 10 #[.slice A0 l0.length c0] w fun e w' => ∃ v0_ v1_ v12_ : Value, e = .returned (.agg #[v0_, v1_, .int .i64 r3, .int .i64 r4, .int .i64 r5, .int .i64 r6, .int .i64 r7, .int .i64 r8, .int .i64 r9, .int .i64 r10, .int .i64 r11, .int .u64 r12, v12_]) ∧ Kd.R k46 46 w' w.heap.size (fun _ => True) v0_ r1 ∧ Kd.R k48 48 w' w.heap.size (fun _ => True) v1_ r2 ∧ Kd.R k50 50 w' w.heap.size (fun _ => True) v12_ r13 ∧ Below w.heap.size w w' := by
 have hu27 := Try.underlying27
 have hu46 := Try.underlying46
 have hu48 := Try.underlying48
 have HR0 := Aside0.mk hr0
 have HC0 := Aside0.mk hc0
 clear hr0 hc0
 have HB := Aside0.mk (Below.refl w.heap.size w)
 have H : ((busbarref12_Usual.f k).bind fun bt211 => ((some (([(⟨0, 0, 40⟩ : S46), (⟨1, 0, 40⟩ : S46), (⟨2, 0, 20⟩ : S46), (⟨2, 24, 40⟩ : S46), (⟨3, 0, 40⟩ : S46)] : List (S46)) : List (S46))).bind fun y231 => ((some (([(⟨2, 4, 2⟩ : S48), (⟨2, 8, 4⟩ : S48), (⟨3, 4, 4⟩ : S48)] : List (S48)) : List (S48))).bind fun y234 => ((busbarlaw0_At.f l0 0).bind fun t237 => ((busbarlaw0_Within.f t237 12).bind fun t238 => ((busbarlaw0_At.f l0 0).bind fun t239 => ((busbarlaw0_Digit.f t239 12 5).bind fun t240 => ((busbarlaw0_At.f l0 1).bind fun t241 => ((busbarlaw0_Within.f t241 6).bind fun t242 => ((busbarlaw0_At.f l0 1).bind fun t243 => ((busbarlaw0_Digit.f t243 6 20).bind fun t244 => ((busbarlaw0_At.f l0 1).bind fun t245 => ((busbarlaw0_Digit.f t245 120 3).bind fun t246 => (if t246 > 0 then (busbarlaw0_Conf.j0 k l0 y231 y234 100 (wrap64 (1 + t238)) bt211.2.2.2.2.1 t240 2000 50 500 bt211.2.2.2.2.2.2.2.2.2.1 bt211.2.2.2.2.2.2.2.2.2.2.1 bt211.2.2.2.2.2.2.2.2.2.2.2.1 bt211.2.2.2.2.2.2.2.2.2.2.2.2) else (busbarlaw0_Conf.j0 k l0 y231 y234 100 (wrap64 (1 + t238)) bt211.2.2.2.2.1 t240 2000 (wrap64 (1 + t242)) (wrap64 (1 + t244)) bt211.2.2.2.2.2.2.2.2.2.1 bt211.2.2.2.2.2.2.2.2.2.2.1 bt211.2.2.2.2.2.2.2.2.2.2.2.1 bt211.2.2.2.2.2.2.2.2.2.2.2.2))))))))))))))) = some (r1, r2, r3, r4, r5, r6, r7, r8, r9, r10, r11, r12, r13) := h
 clear h
 replace H := Option.bind_eq_some_iff.mp H
 obtain ⟨⟨t211, t214, t217, t218, t219, t220, t221, t222, t223, t224, t225, t226, t227⟩, A20, H⟩ := H
 replace H : ((some (([(⟨0, 0, 40⟩ : S46), (⟨1, 0, 40⟩ : S46), (⟨2, 0, 20⟩ : S46), (⟨2, 24, 40⟩ : S46), (⟨3, 0, 40⟩ : S46)] : List (S46)) : List (S46))).bind fun y231 => ((some (([(⟨2, 4, 2⟩ : S48), (⟨2, 8, 4⟩ : S48), (⟨3, 4, 4⟩ : S48)] : List (S48)) : List (S48))).bind fun y234 => ((busbarlaw0_At.f l0 0).bind fun t237 => ((busbarlaw0_Within.f t237 12).bind fun t238 => ((busbarlaw0_At.f l0 0).bind fun t239 => ((busbarlaw0_Digit.f t239 12 5).bind fun t240 => ((busbarlaw0_At.f l0 1).bind fun t241 => ((busbarlaw0_Within.f t241 6).bind fun t242 => ((busbarlaw0_At.f l0 1).bind fun t243 => ((busbarlaw0_Digit.f t243 6 20).bind fun t244 => ((busbarlaw0_At.f l0 1).bind fun t245 => ((busbarlaw0_Digit.f t245 120 3).bind fun t246 => (if t246 > 0 then (busbarlaw0_Conf.j0 k l0 y231 y234 100 (wrap64 (1 + t238)) t219 t240 2000 50 500 t224 t225 t226 t227) else (busbarlaw0_Conf.j0 k l0 y231 y234 100 (wrap64 (1 + t238)) t219 t240 2000 (wrap64 (1 + t242)) (wrap64 (1 + t244)) t224 t225 t226 t227)))))))))))))) = some (r1, r2, r3, r4, r5, r6, r7, r8, r9, r10, r11, r12, r13) := H
 have A2 := Aside0.mk A20
 clear A20
 obtain ⟨y231, hy231⟩ : ∃ y_ : List (S46), y_ = (([(⟨0, 0, 40⟩ : S46), (⟨1, 0, 40⟩ : S46), (⟨2, 0, 20⟩ : S46), (⟨2, 24, 40⟩ : S46), (⟨3, 0, 40⟩ : S46)] : List (S46))) := ⟨_, rfl⟩
 replace H : ((some (([(⟨2, 4, 2⟩ : S48), (⟨2, 8, 4⟩ : S48), (⟨3, 4, 4⟩ : S48)] : List (S48)) : List (S48))).bind fun y234 => ((busbarlaw0_At.f l0 0).bind fun t237 => ((busbarlaw0_Within.f t237 12).bind fun t238 => ((busbarlaw0_At.f l0 0).bind fun t239 => ((busbarlaw0_Digit.f t239 12 5).bind fun t240 => ((busbarlaw0_At.f l0 1).bind fun t241 => ((busbarlaw0_Within.f t241 6).bind fun t242 => ((busbarlaw0_At.f l0 1).bind fun t243 => ((busbarlaw0_Digit.f t243 6 20).bind fun t244 => ((busbarlaw0_At.f l0 1).bind fun t245 => ((busbarlaw0_Digit.f t245 120 3).bind fun t246 => (if t246 > 0 then (busbarlaw0_Conf.j0 k l0 y231 y234 100 (wrap64 (1 + t238)) t219 t240 2000 50 500 t224 t225 t226 t227) else (busbarlaw0_Conf.j0 k l0 y231 y234 100 (wrap64 (1 + t238)) t219 t240 2000 (wrap64 (1 + t242)) (wrap64 (1 + t244)) t224 t225 t226 t227))))))))))))) = some (r1, r2, r3, r4, r5, r6, r7, r8, r9, r10, r11, r12, r13) := by first | (rw [hy231]; with_reducible exact H) | (have H2_ := (Option.bind_some _ _).symm.trans H; rw [hy231]; with_reducible exact H2_) | (have H2_ := (Option.bind_some _ _).symm.trans H; with_reducible exact H2_) | with_reducible exact H | (rw [hy231]; exact H) | exact H
 have Ny231 := Aside0.mk hy231
 clear hy231
 obtain ⟨y234, hy234⟩ : ∃ y_ : List (S48), y_ = (([(⟨2, 4, 2⟩ : S48), (⟨2, 8, 4⟩ : S48), (⟨3, 4, 4⟩ : S48)] : List (S48))) := ⟨_, rfl⟩
 replace H : ((busbarlaw0_At.f l0 0).bind fun t237 => ((busbarlaw0_Within.f t237 12).bind fun t238 => ((busbarlaw0_At.f l0 0).bind fun t239 => ((busbarlaw0_Digit.f t239 12 5).bind fun t240 => ((busbarlaw0_At.f l0 1).bind fun t241 => ((busbarlaw0_Within.f t241 6).bind fun t242 => ((busbarlaw0_At.f l0 1).bind fun t243 => ((busbarlaw0_Digit.f t243 6 20).bind fun t244 => ((busbarlaw0_At.f l0 1).bind fun t245 => ((busbarlaw0_Digit.f t245 120 3).bind fun t246 => (if t246 > 0 then (busbarlaw0_Conf.j0 k l0 y231 y234 100 (wrap64 (1 + t238)) t219 t240 2000 50 500 t224 t225 t226 t227) else (busbarlaw0_Conf.j0 k l0 y231 y234 100 (wrap64 (1 + t238)) t219 t240 2000 (wrap64 (1 + t242)) (wrap64 (1 + t244)) t224 t225 t226 t227)))))))))))) = some (r1, r2, r3, r4, r5, r6, r7, r8, r9, r10, r11, r12, r13) := by first | (rw [hy234]; with_reducible exact H) | (have H2_ := (Option.bind_some _ _).symm.trans H; rw [hy234]; with_reducible exact H2_) | (have H2_ := (Option.bind_some _ _).symm.trans H; with_reducible exact H2_) | with_reducible exact H | (rw [hy234]; exact H) | exact H
 have Ny234 := Aside0.mk hy234
 clear hy234
 replace H := Option.bind_eq_some_iff.mp H
 obtain ⟨t237, A30, H⟩ := H
 have A3 := Aside0.mk A30
 clear A30
 replace H := Option.bind_eq_some_iff.mp H
 obtain ⟨t238, A40, H⟩ := H
 have A4 := Aside0.mk A40
 clear A40
 replace H := Option.bind_eq_some_iff.mp H
 obtain ⟨t239, A50, H⟩ := H
 have A5 := Aside0.mk A50
 clear A50
 replace H := Option.bind_eq_some_iff.mp H
 obtain ⟨t240, A60, H⟩ := H
 have A6 := Aside0.mk A60
 clear A60
 replace H := Option.bind_eq_some_iff.mp H
 obtain ⟨t241, A70, H⟩ := H
 have A7 := Aside0.mk A70
 clear A70
 replace H := Option.bind_eq_some_iff.mp H
 obtain ⟨t242, A80, H⟩ := H
 have A8 := Aside0.mk A80
 clear A80
 replace H := Option.bind_eq_some_iff.mp H
 obtain ⟨t243, A90, H⟩ := H
 have A9 := Aside0.mk A90
 clear A90
 replace H := Option.bind_eq_some_iff.mp H
 obtain ⟨t244, A100, H⟩ := H
 have A10 := Aside0.mk A100
 clear A100
 replace H := Option.bind_eq_some_iff.mp H
 obtain ⟨t245, A110, H⟩ := H
 have A11 := Aside0.mk A110
 clear A110
 replace H := Option.bind_eq_some_iff.mp H
 obtain ⟨t246, A120, H⟩ := H
 have A12 := Aside0.mk A120
 clear A120
 have HC13 := Aside0.mk H
 clear H
 go_enter Try.func10, Try.ntmps10
 go_upto_if 41 with (first | ((with_reducible refine gate_dst (N := 2) rfl ?_); refine box_event ?hg (N := 2) ?hd (cs := #[.slice none 0 0, .slice none 0 0, .int .i64 0, .int .i64 0, .int .i64 0, .int .i64 0, .int .i64 0, .int .i64 0, .int .i64 0, .int .i64 0, .int .i64 0, .int .u64 0, .slice none 0 0]) (t := 27) ?hr ?_; (case hd => rfl); (case hg => rfl); (case hr => first | (go_simp; done) | (go_simp; rfl)); intro gb210 hg w14 hbox hb; have BK210 := Aside0.mk (hbox); have GW210 := Aside0.mk ((by rw [hg]; exact (below_size (HB.out)) : w.heap.size ≤ gb210)); have GE210 := Aside0.mk ((by rw [hg]; exact (below_size (HB.out)) : w.heap.size ≤ gb210)); replace HB := Aside0.mk (below_step (HB.out) hb); clear hb hbox hg) | ((with_reducible refine gate_callee (f := 18) rfl ?_); refine goesL_ (some 4) rfl rfl Try.func18 (by kernel_rfl) rfl #[] rfl (by (try simp only [List.map_toArray, List.map_cons, List.map_nil]); first | done | rfl | (simp only [List.length_drop, List.length_take]; rfl)) ?_; (with_reducible refine (busbarref12_Usual.calls k  t211 t214 t217 t218 t219 t220 t221 t222 t223 t224 t225 t226 t227 _ A2.out).mono ?_); rintro e w15 ⟨v212, v215, v228, rfl, ho0, ho1, ho2, hb⟩; refine ⟨_, rfl, ?_⟩; have HO213 := Aside0.mk (Kd.R_lower ho0 (below_size (HB.out))); have HO216 := Aside0.mk (Kd.R_lower ho1 (below_size (HB.out))); have HO229 := Aside0.mk (Kd.R_lower ho2 (below_size (HB.out))); replace BK210 := Aside0.mk (blk_below BK210.out hb); replace HB := Aside0.mk (below_step (HB.out) hb); (try clear hb); (try clear ho0); (try clear ho1); (try clear ho2)) | ((with_reducible refine gate_dst (N := 3) rfl ?_); refine box_event ?hg (N := 3) ?hd (cs := #[.slice none 0 0, .slice none 0 0, .int .i64 0, .int .i64 0, .int .i64 0, .int .i64 0, .int .i64 0, .int .i64 0, .int .i64 0, .int .i64 0, .int .i64 0, .int .u64 0, .slice none 0 0]) (t := 27) ?hr ?_; (case hd => rfl); (case hg => rfl); (case hr => first | (go_simp; done) | (go_simp; rfl)); intro gb230 hg w16 hbox hb; replace HO213 := Aside0.mk (Kd.R_below (HO213.out) hb); replace HO216 := Aside0.mk (Kd.R_below (HO216.out) hb); replace HO229 := Aside0.mk (Kd.R_below (HO229.out) hb); have BK230 := Aside0.mk (hbox); have GW230 := Aside0.mk ((by rw [hg]; exact (below_size (HB.out)) : w.heap.size ≤ gb230)); have GE230 := Aside0.mk ((by rw [hg]; exact (below_size (HB.out)) : w.heap.size ≤ gb230)); replace HB := Aside0.mk (below_step (HB.out) hb); have NB210_230 := Aside0.mk ((by rw [hg]; exact Nat.ne_of_lt (blk_lt (g := gb210) (o := .cells #[.slice none 0 0, .slice none 0 0, .int .i64 0, .int .i64 0, .int .i64 0, .int .i64 0, .int .i64 0, .int .i64 0, .int .i64 0, .int .i64 0, .int .i64 0, .int .u64 0, .slice none 0 0] 27 (0, 0)) (BK210.out)) : gb210 ≠ gb230)); have NB230_210 := Aside0.mk ((by rw [hg]; exact Nat.ne_of_gt (blk_lt (g := gb210) (o := .cells #[.slice none 0 0, .slice none 0 0, .int .i64 0, .int .i64 0, .int .i64 0, .int .i64 0, .int .i64 0, .int .i64 0, .int .i64 0, .int .i64 0, .int .i64 0, .int .u64 0, .slice none 0 0] 27 (0, 0)) (BK210.out)) : gb230 ≠ gb210)); replace BK210 := Aside0.mk (blk_below BK210.out hb); clear hb hbox hg; obtain ⟨Ao17, co17, eo17⟩ := Kd.R_slice HO213.out; subst eo17; have hnb18 := NB230_210.out; have hnc18 := NB210_230.out; obtain ⟨hcz19_0, hcz19_1, hcz19_2, hcz19_3, hcz19_4, hcz19_5, hcz19_6, hcz19_7, hcz19_8, hcz19_9, hcz19_10, hcz19_11, hcz19_12⟩ := blkc13 BK230.out; obtain ⟨hfz19_0, hfz19_1, hfz19_2, hfz19_3, hfz19_4, hfz19_5, hfz19_6, hfz19_7, hfz19_8, hfz19_9, hfz19_10, hfz19_11, hfz19_12⟩ := blkf13 BK230.out; obtain ⟨Ao20, co20, eo20⟩ := Kd.R_slice HO216.out; subst eo20; obtain ⟨Ao21, co21, eo21⟩ := Kd.R_slice HO229.out; subst eo21) | ((with_reducible refine gate_dst (N := 10) rfl ?_); refine Kd.R_lit k46 _ 46 ?hg (N := 10) ?hd (xs := ([(⟨0, 0, 40⟩ : S46), (⟨1, 0, 40⟩ : S46), (⟨2, 0, 20⟩ : S46), (⟨2, 24, 40⟩ : S46), (⟨3, 0, 40⟩ : S46)] : List (S46))) (inner := [.int .i64 0, .int .i64 0, .int .i64 40, .int .i64 1, .int .i64 0, .int .i64 40, .int .i64 2, .int .i64 0, .int .i64 20, .int .i64 2, .int .i64 24, .int .i64 40, .int .i64 3, .int .i64 0, .int .i64 40]) (ok := fun _ => True) (okp := fun _ => True) ?hr ?hp (fun _ hk => hk) trivial (Below.refl _ _) (Nat.le_refl _) (by simp) ?_; (case hd => rfl); (case hg => rfl); (case hr => first | (go_simp; done) | (go_simp; rfl)); (case hp => exact (Reps.c3 (show Kd.M k46 _ _ _ (⟨0, 0, 40⟩ : S46) [.int .i64 0, .int .i64 0, .int .i64 40] from (k46_mkM _ _ _ (⟨0, 0, 40⟩ : S46) )) (Reps.c3 (show Kd.M k46 _ _ _ (⟨1, 0, 40⟩ : S46) [.int .i64 1, .int .i64 0, .int .i64 40] from (k46_mkM _ _ _ (⟨1, 0, 40⟩ : S46) )) (Reps.c3 (show Kd.M k46 _ _ _ (⟨2, 0, 20⟩ : S46) [.int .i64 2, .int .i64 0, .int .i64 20] from (k46_mkM _ _ _ (⟨2, 0, 20⟩ : S46) )) (Reps.c3 (show Kd.M k46 _ _ _ (⟨2, 24, 40⟩ : S46) [.int .i64 2, .int .i64 24, .int .i64 40] from (k46_mkM _ _ _ (⟨2, 24, 40⟩ : S46) )) (Reps.c3 (show Kd.M k46 _ _ _ (⟨3, 0, 40⟩ : S46) [.int .i64 3, .int .i64 0, .int .i64 40] from (k46_mkM _ _ _ (⟨3, 0, 40⟩ : S46) )) (Reps.none _ _))))))); intro v232 w22 ho23 hb hg_ hnew_; clear hg_ hnew_; (first | rw [← Ny231.out] at ho23 | (simp only [Int.reduceToNat] at ho23; rw [← Ny231.out] at ho23)); replace HO216 := Aside0.mk (Kd.R_below ((Kd.R_mono (Kd.rfR (Kd.rfR (Kd.rfR (Kd.rfR (Kd.rfR (Kd.rfR (Kd.rfR (Kd.rfR (Kd.rfR (Kd.rfR (Kd.rfR (Kd.rfR (Kd.rfR (Kd.R_types HO216.out BK230.out (by decide))))))))))))))) (fun _ h_ => h_.1))) hb); replace HO229 := Aside0.mk (Kd.R_below ((Kd.R_mono (Kd.rfR (Kd.rfR (Kd.rfR (Kd.rfR (Kd.rfR (Kd.rfR (Kd.rfR (Kd.rfR (Kd.rfR (Kd.rfR (Kd.rfR (Kd.rfR (Kd.rfR (Kd.R_types HO229.out BK230.out (by decide))))))))))))))) (fun _ h_ => h_.1))) hb); have HO233 := Aside0.mk (Kd.R_lower (Kd.R_new' ho23 (Kd.R_lt ((Kd.R_mono (Kd.rfR (Kd.rfR (Kd.rfR (Kd.rfR (Kd.rfR (Kd.rfR (Kd.rfR (Kd.rfR (Kd.rfR (Kd.rfR (Kd.rfR (Kd.rfR (Kd.rfR (Kd.R_types HO213.out BK230.out (by decide))))))))))))))) (fun _ h_ => h_.1))))) (below_size (by repeat (first | (with_reducible first | exact HB.out | apply below_alloc | apply pw_below_drewN | apply below_drew1 | refine below_set ?_ GE210.out | refine below_set ?_ GE230.out) | exact HB.out)))); replace HO213 := Aside0.mk (Kd.R_elder' ((Kd.R_mono (Kd.rfR (Kd.rfR (Kd.rfR (Kd.rfR (Kd.rfR (Kd.rfR (Kd.rfR (Kd.rfR (Kd.rfR (Kd.rfR (Kd.rfR (Kd.rfR (Kd.rfR (Kd.R_types HO213.out BK230.out (by decide))))))))))))))) (fun _ h_ => h_.1))) (Kd.R_base ho23) hb); replace BK210 := Aside0.mk (blk_below (g := gb210) (o := .cells #[.slice none 0 0, .slice none 0 0, .int .i64 0, .int .i64 0, .int .i64 0, .int .i64 0, .int .i64 0, .int .i64 0, .int .i64 0, .int .i64 0, .int .i64 0, .int .u64 0, .slice none 0 0] 27 (0, 0)) (by (with_reducible repeat (first | refine blk_drewN ?_ _ | refine blk_drew ?_ | refine blk_alloc ?_ _)); refine blk_far ?_ NB210_230.out _; (with_reducible repeat (first | refine blk_drewN ?_ _ | refine blk_drew ?_ | refine blk_alloc ?_ _)); refine blk_far ?_ NB210_230.out _; (with_reducible repeat (first | refine blk_drewN ?_ _ | refine blk_drew ?_ | refine blk_alloc ?_ _)); refine blk_far ?_ NB210_230.out _; (with_reducible repeat (first | refine blk_drewN ?_ _ | refine blk_drew ?_ | refine blk_alloc ?_ _)); refine blk_far ?_ NB210_230.out _; (with_reducible repeat (first | refine blk_drewN ?_ _ | refine blk_drew ?_ | refine blk_alloc ?_ _)); refine blk_far ?_ NB210_230.out _; (with_reducible repeat (first | refine blk_drewN ?_ _ | refine blk_drew ?_ | refine blk_alloc ?_ _)); refine blk_far ?_ NB210_230.out _; (with_reducible repeat (first | refine blk_drewN ?_ _ | refine blk_drew ?_ | refine blk_alloc ?_ _)); refine blk_far ?_ NB210_230.out _; (with_reducible repeat (first | refine blk_drewN ?_ _ | refine blk_drew ?_ | refine blk_alloc ?_ _)); refine blk_far ?_ NB210_230.out _; (with_reducible repeat (first | refine blk_drewN ?_ _ | refine blk_drew ?_ | refine blk_alloc ?_ _)); refine blk_far ?_ NB210_230.out _; (with_reducible repeat (first | refine blk_drewN ?_ _ | refine blk_drew ?_ | refine blk_alloc ?_ _)); refine blk_far ?_ NB210_230.out _; (with_reducible repeat (first | refine blk_drewN ?_ _ | refine blk_drew ?_ | refine blk_alloc ?_ _)); refine blk_far ?_ NB210_230.out _; (with_reducible repeat (first | refine blk_drewN ?_ _ | refine blk_drew ?_ | refine blk_alloc ?_ _)); refine blk_far ?_ NB210_230.out _; (with_reducible repeat (first | refine blk_drewN ?_ _ | refine blk_drew ?_ | refine blk_alloc ?_ _)); refine blk_far ?_ NB210_230.out _; (with_reducible repeat (first | refine blk_drewN ?_ _ | refine blk_drew ?_ | refine blk_alloc ?_ _)); exact BK210.out) hb); replace BK230 := Aside0.mk (blk_below (g := gb230) (o := .cells #[.slice Ao17 t211.length co17, .slice Ao20 t214.length co20, .int .i64 t217, .int .i64 t218, .int .i64 t219, .int .i64 t220, .int .i64 t221, .int .i64 t222, .int .i64 t223, .int .i64 t224, .int .i64 t225, .int .u64 t226, .slice Ao21 t227.length co21] 27 (0, 0)) (by (with_reducible repeat (first | refine blk_drewN ?_ _ | refine blk_drew ?_ | refine blk_alloc ?_ _)); refine blk_put (cs := #[.slice Ao17 t211.length co17, .slice Ao20 t214.length co20, .int .i64 t217, .int .i64 t218, .int .i64 t219, .int .i64 t220, .int .i64 t221, .int .i64 t222, .int .i64 t223, .int .i64 t224, .int .i64 t225, .int .u64 t226, .slice none 0 0]) ?_ 12 _ rfl; (with_reducible repeat (first | refine blk_drewN ?_ _ | refine blk_drew ?_ | refine blk_alloc ?_ _)); refine blk_put (cs := #[.slice Ao17 t211.length co17, .slice Ao20 t214.length co20, .int .i64 t217, .int .i64 t218, .int .i64 t219, .int .i64 t220, .int .i64 t221, .int .i64 t222, .int .i64 t223, .int .i64 t224, .int .i64 t225, .int .u64 0, .slice none 0 0]) ?_ 11 _ rfl; (with_reducible repeat (first | refine blk_drewN ?_ _ | refine blk_drew ?_ | refine blk_alloc ?_ _)); refine blk_put (cs := #[.slice Ao17 t211.length co17, .slice Ao20 t214.length co20, .int .i64 t217, .int .i64 t218, .int .i64 t219, .int .i64 t220, .int .i64 t221, .int .i64 t222, .int .i64 t223, .int .i64 t224, .int .i64 0, .int .u64 0, .slice none 0 0]) ?_ 10 _ rfl; (with_reducible repeat (first | refine blk_drewN ?_ _ | refine blk_drew ?_ | refine blk_alloc ?_ _)); refine blk_put (cs := #[.slice Ao17 t211.length co17, .slice Ao20 t214.length co20, .int .i64 t217, .int .i64 t218, .int .i64 t219, .int .i64 t220, .int .i64 t221, .int .i64 t222, .int .i64 t223, .int .i64 0, .int .i64 0, .int .u64 0, .slice none 0 0]) ?_ 9 _ rfl; (with_reducible repeat (first | refine blk_drewN ?_ _ | refine blk_drew ?_ | refine blk_alloc ?_ _)); refine blk_put (cs := #[.slice Ao17 t211.length co17, .slice Ao20 t214.length co20, .int .i64 t217, .int .i64 t218, .int .i64 t219, .int .i64 t220, .int .i64 t221, .int .i64 t222, .int .i64 0, .int .i64 0, .int .i64 0, .int .u64 0, .slice none 0 0]) ?_ 8 _ rfl; (with_reducible repeat (first | refine blk_drewN ?_ _ | refine blk_drew ?_ | refine blk_alloc ?_ _)); refine blk_put (cs := #[.slice Ao17 t211.length co17, .slice Ao20 t214.length co20, .int .i64 t217, .int .i64 t218, .int .i64 t219, .int .i64 t220, .int .i64 t221, .int .i64 0, .int .i64 0, .int .i64 0, .int .i64 0, .int .u64 0, .slice none 0 0]) ?_ 7 _ rfl; (with_reducible repeat (first | refine blk_drewN ?_ _ | refine blk_drew ?_ | refine blk_alloc ?_ _)); refine blk_put (cs := #[.slice Ao17 t211.length co17, .slice Ao20 t214.length co20, .int .i64 t217, .int .i64 t218, .int .i64 t219, .int .i64 t220, .int .i64 0, .int .i64 0, .int .i64 0, .int .i64 0, .int .i64 0, .int .u64 0, .slice none 0 0]) ?_ 6 _ rfl; (with_reducible repeat (first | refine blk_drewN ?_ _ | refine blk_drew ?_ | refine blk_alloc ?_ _)); refine blk_put (cs := #[.slice Ao17 t211.length co17, .slice Ao20 t214.length co20, .int .i64 t217, .int .i64 t218, .int .i64 t219, .int .i64 0, .int .i64 0, .int .i64 0, .int .i64 0, .int .i64 0, .int .i64 0, .int .u64 0, .slice none 0 0]) ?_ 5 _ rfl; (with_reducible repeat (first | refine blk_drewN ?_ _ | refine blk_drew ?_ | refine blk_alloc ?_ _)); refine blk_put (cs := #[.slice Ao17 t211.length co17, .slice Ao20 t214.length co20, .int .i64 t217, .int .i64 t218, .int .i64 0, .int .i64 0, .int .i64 0, .int .i64 0, .int .i64 0, .int .i64 0, .int .i64 0, .int .u64 0, .slice none 0 0]) ?_ 4 _ rfl; (with_reducible repeat (first | refine blk_drewN ?_ _ | refine blk_drew ?_ | refine blk_alloc ?_ _)); refine blk_put (cs := #[.slice Ao17 t211.length co17, .slice Ao20 t214.length co20, .int .i64 t217, .int .i64 0, .int .i64 0, .int .i64 0, .int .i64 0, .int .i64 0, .int .i64 0, .int .i64 0, .int .i64 0, .int .u64 0, .slice none 0 0]) ?_ 3 _ rfl; (with_reducible repeat (first | refine blk_drewN ?_ _ | refine blk_drew ?_ | refine blk_alloc ?_ _)); refine blk_put (cs := #[.slice Ao17 t211.length co17, .slice Ao20 t214.length co20, .int .i64 0, .int .i64 0, .int .i64 0, .int .i64 0, .int .i64 0, .int .i64 0, .int .i64 0, .int .i64 0, .int .i64 0, .int .u64 0, .slice none 0 0]) ?_ 2 _ rfl; (with_reducible repeat (first | refine blk_drewN ?_ _ | refine blk_drew ?_ | refine blk_alloc ?_ _)); refine blk_put (cs := #[.slice Ao17 t211.length co17, .slice none 0 0, .int .i64 0, .int .i64 0, .int .i64 0, .int .i64 0, .int .i64 0, .int .i64 0, .int .i64 0, .int .i64 0, .int .i64 0, .int .u64 0, .slice none 0 0]) ?_ 1 _ rfl; (with_reducible repeat (first | refine blk_drewN ?_ _ | refine blk_drew ?_ | refine blk_alloc ?_ _)); refine blk_put (cs := #[.slice none 0 0, .slice none 0 0, .int .i64 0, .int .i64 0, .int .i64 0, .int .i64 0, .int .i64 0, .int .i64 0, .int .i64 0, .int .i64 0, .int .i64 0, .int .u64 0, .slice none 0 0]) ?_ 0 _ rfl; (with_reducible repeat (first | refine blk_drewN ?_ _ | refine blk_drew ?_ | refine blk_alloc ?_ _)); exact BK230.out) hb); replace HB := Aside0.mk (below_step (by repeat (first | (with_reducible first | exact HB.out | apply below_alloc | apply pw_below_drewN | apply below_drew1 | refine below_set ?_ GE210.out | refine below_set ?_ GE230.out) | exact HB.out)) hb); clear hb ho23; obtain ⟨Ao24, co24, eo24⟩ := Kd.R_slice HO233.out; subst eo24; obtain ⟨hcz25_0, hcz25_1, hcz25_2, hcz25_3, hcz25_4, hcz25_5, hcz25_6, hcz25_7, hcz25_8, hcz25_9, hcz25_10, hcz25_11, hcz25_12⟩ := blkc13 BK230.out; obtain ⟨hfz25_0, hfz25_1, hfz25_2, hfz25_3, hfz25_4, hfz25_5, hfz25_6, hfz25_7, hfz25_8, hfz25_9, hfz25_10, hfz25_11, hfz25_12⟩ := blkf13 BK230.out) | ((with_reducible refine gate_dst (N := 15) rfl ?_); refine Kd.R_lit k48 _ 48 ?hg (N := 15) ?hd (xs := ([(⟨2, 4, 2⟩ : S48), (⟨2, 8, 4⟩ : S48), (⟨3, 4, 4⟩ : S48)] : List (S48))) (inner := [.int .i64 2, .int .i64 4, .int .i64 2, .int .i64 2, .int .i64 8, .int .i64 4, .int .i64 3, .int .i64 4, .int .i64 4]) (ok := fun _ => True) (okp := fun _ => True) ?hr ?hp (fun _ hk => hk) trivial (Below.refl _ _) (Nat.le_refl _) (by simp) ?_; (case hd => rfl); (case hg => rfl); (case hr => first | (go_simp; done) | (go_simp; rfl)); (case hp => exact (Reps.c3 (show Kd.M k48 _ _ _ (⟨2, 4, 2⟩ : S48) [.int .i64 2, .int .i64 4, .int .i64 2] from (k48_mkM _ _ _ (⟨2, 4, 2⟩ : S48) )) (Reps.c3 (show Kd.M k48 _ _ _ (⟨2, 8, 4⟩ : S48) [.int .i64 2, .int .i64 8, .int .i64 4] from (k48_mkM _ _ _ (⟨2, 8, 4⟩ : S48) )) (Reps.c3 (show Kd.M k48 _ _ _ (⟨3, 4, 4⟩ : S48) [.int .i64 3, .int .i64 4, .int .i64 4] from (k48_mkM _ _ _ (⟨3, 4, 4⟩ : S48) )) (Reps.none _ _))))); intro v235 w26 ho27 hb hg_ hnew_; clear hg_ hnew_; (first | rw [← Ny234.out] at ho27 | (simp only [Int.reduceToNat] at ho27; rw [← Ny234.out] at ho27)); replace HO213 := Aside0.mk (Kd.R_below ((Kd.R_mono (Kd.rfR (Kd.R_types HO213.out BK230.out (by decide))) (fun _ h_ => h_.1))) hb); replace HO229 := Aside0.mk (Kd.R_below ((Kd.R_mono (Kd.rfR (Kd.R_types HO229.out BK230.out (by decide))) (fun _ h_ => h_.1))) hb); replace HO233 := Aside0.mk (Kd.R_below ((Kd.R_mono (Kd.rfR (Kd.R_types HO233.out BK230.out (by decide))) (fun _ h_ => h_.1))) hb); have HO236 := Aside0.mk (Kd.R_lower (Kd.R_new' ho27 (Kd.R_lt ((Kd.R_mono (Kd.rfR (Kd.R_types HO216.out BK230.out (by decide))) (fun _ h_ => h_.1))))) (below_size (by repeat (first | (with_reducible first | exact HB.out | apply below_alloc | apply pw_below_drewN | apply below_drew1 | refine below_set ?_ GE210.out | refine below_set ?_ GE230.out) | exact HB.out)))); replace HO216 := Aside0.mk (Kd.R_elder' ((Kd.R_mono (Kd.rfR (Kd.R_types HO216.out BK230.out (by decide))) (fun _ h_ => h_.1))) (Kd.R_base ho27) hb); replace BK210 := Aside0.mk (blk_below (g := gb210) (o := .cells #[.slice none 0 0, .slice none 0 0, .int .i64 0, .int .i64 0, .int .i64 0, .int .i64 0, .int .i64 0, .int .i64 0, .int .i64 0, .int .i64 0, .int .i64 0, .int .u64 0, .slice none 0 0] 27 (0, 0)) (by (with_reducible repeat (first | refine blk_drewN ?_ _ | refine blk_drew ?_ | refine blk_alloc ?_ _)); refine blk_far ?_ NB210_230.out _; (with_reducible repeat (first | refine blk_drewN ?_ _ | refine blk_drew ?_ | refine blk_alloc ?_ _)); exact BK210.out) hb); replace BK230 := Aside0.mk (blk_below (g := gb230) (o := .cells #[.slice Ao24 y231.length co24, .slice Ao20 t214.length co20, .int .i64 t217, .int .i64 t218, .int .i64 t219, .int .i64 t220, .int .i64 t221, .int .i64 t222, .int .i64 t223, .int .i64 t224, .int .i64 t225, .int .u64 t226, .slice Ao21 t227.length co21] 27 (0, 0)) (by (with_reducible repeat (first | refine blk_drewN ?_ _ | refine blk_drew ?_ | refine blk_alloc ?_ _)); refine blk_put (cs := #[.slice Ao17 t211.length co17, .slice Ao20 t214.length co20, .int .i64 t217, .int .i64 t218, .int .i64 t219, .int .i64 t220, .int .i64 t221, .int .i64 t222, .int .i64 t223, .int .i64 t224, .int .i64 t225, .int .u64 t226, .slice Ao21 t227.length co21]) ?_ 0 _ rfl; (with_reducible repeat (first | refine blk_drewN ?_ _ | refine blk_drew ?_ | refine blk_alloc ?_ _)); exact BK230.out) hb); replace HB := Aside0.mk (below_step (by repeat (first | (with_reducible first | exact HB.out | apply below_alloc | apply pw_below_drewN | apply below_drew1 | refine below_set ?_ GE210.out | refine below_set ?_ GE230.out) | exact HB.out)) hb); clear hb ho27; obtain ⟨Ao28, co28, eo28⟩ := Kd.R_slice HO236.out; subst eo28; obtain ⟨hcz29_0, hcz29_1, hcz29_2, hcz29_3, hcz29_4, hcz29_5, hcz29_6, hcz29_7, hcz29_8, hcz29_9, hcz29_10, hcz29_11, hcz29_12⟩ := blkc13 BK230.out; obtain ⟨hfz29_0, hfz29_1, hfz29_2, hfz29_3, hfz29_4, hfz29_5, hfz29_6, hfz29_7, hfz29_8, hfz29_9, hfz29_10, hfz29_11, hfz29_12⟩ := blkf13 BK230.out) | ((with_reducible refine gate_callee (f := 26) rfl ?_); refine goesL_ (some 19) rfl rfl Try.func26 (by kernel_rfl) rfl #[.slice A0 l0.length c0, .int .i64 0] rfl (by (try simp only [List.map_toArray, List.map_cons, List.map_nil]); first | done | rfl | (simp only [List.length_drop, List.length_take]; rfl)) ?_; (with_reducible refine (busbarlaw0_At.calls _ _ l0 0 t237 _ ?side1 ?side2 A3.out).mono ?_); (case side1 => exact Kd.C_below HR0.out (by repeat (first | (with_reducible first | exact HB.out | apply below_alloc | apply pw_below_drewN | apply below_drew1 | refine below_set ?_ GE210.out | refine below_set ?_ GE230.out) | exact HB.out))); (case side2 => exact HC0.out); rintro e w' ⟨rfl, ⟨nd, rfl⟩⟩; refine ⟨_, rfl, ?_⟩) | ((with_reducible refine gate_callee (f := 12) rfl ?_); refine goesL_ (some 20) rfl rfl Try.func12 (by kernel_rfl) rfl #[.int .i64 t237, .int .i64 12] rfl (by (try simp only [List.map_toArray, List.map_cons, List.map_nil]); first | done | rfl | (simp only [List.length_drop, List.length_take]; rfl)) ?_; (with_reducible refine (busbarlaw0_Within.calls t237 12 t238 _ A4.out).mono ?_); rintro e w' ⟨rfl, ⟨nd, rfl⟩⟩; refine ⟨_, rfl, ?_⟩) | ((with_reducible refine gate_callee (f := 26) rfl ?_); refine goesL_ (some 24) rfl rfl Try.func26 (by kernel_rfl) rfl #[.slice A0 l0.length c0, .int .i64 0] rfl (by (try simp only [List.map_toArray, List.map_cons, List.map_nil]); first | done | rfl | (simp only [List.length_drop, List.length_take]; rfl)) ?_; (with_reducible refine (busbarlaw0_At.calls _ _ l0 0 t239 _ ?side1 ?side2 A5.out).mono ?_); (case side1 => exact Kd.C_below HR0.out (by repeat (first | (with_reducible first | exact HB.out | apply below_alloc | apply pw_below_drewN | apply below_drew1 | refine below_set ?_ GE210.out | refine below_set ?_ GE230.out) | exact HB.out))); (case side2 => exact HC0.out); rintro e w' ⟨rfl, ⟨nd, rfl⟩⟩; refine ⟨_, rfl, ?_⟩) | ((with_reducible refine gate_callee (f := 27) rfl ?_); refine goesL_ (some 25) rfl rfl Try.func27 (by kernel_rfl) rfl #[.int .i64 t239, .int .i64 12, .int .i64 5] rfl (by (try simp only [List.map_toArray, List.map_cons, List.map_nil]); first | done | rfl | (simp only [List.length_drop, List.length_take]; rfl)) ?_; (with_reducible refine (busbarlaw0_Digit.calls t239 12 5 t240 _ A6.out).mono ?_); rintro e w' ⟨rfl, ⟨nd, rfl⟩⟩; refine ⟨_, rfl, ?_⟩) | ((with_reducible refine gate_callee (f := 26) rfl ?_); refine goesL_ (some 29) rfl rfl Try.func26 (by kernel_rfl) rfl #[.slice A0 l0.length c0, .int .i64 1] rfl (by (try simp only [List.map_toArray, List.map_cons, List.map_nil]); first | done | rfl | (simp only [List.length_drop, List.length_take]; rfl)) ?_; (with_reducible refine (busbarlaw0_At.calls _ _ l0 1 t241 _ ?side1 ?side2 A7.out).mono ?_); (case side1 => exact Kd.C_below HR0.out (by repeat (first | (with_reducible first | exact HB.out | apply below_alloc | apply pw_below_drewN | apply below_drew1 | refine below_set ?_ GE210.out | refine below_set ?_ GE230.out) | exact HB.out))); (case side2 => exact HC0.out); rintro e w' ⟨rfl, ⟨nd, rfl⟩⟩; refine ⟨_, rfl, ?_⟩) | ((with_reducible refine gate_callee (f := 12) rfl ?_); refine goesL_ (some 30) rfl rfl Try.func12 (by kernel_rfl) rfl #[.int .i64 t241, .int .i64 6] rfl (by (try simp only [List.map_toArray, List.map_cons, List.map_nil]); first | done | rfl | (simp only [List.length_drop, List.length_take]; rfl)) ?_; (with_reducible refine (busbarlaw0_Within.calls t241 6 t242 _ A8.out).mono ?_); rintro e w' ⟨rfl, ⟨nd, rfl⟩⟩; refine ⟨_, rfl, ?_⟩) | ((with_reducible refine gate_callee (f := 26) rfl ?_); refine goesL_ (some 34) rfl rfl Try.func26 (by kernel_rfl) rfl #[.slice A0 l0.length c0, .int .i64 1] rfl (by (try simp only [List.map_toArray, List.map_cons, List.map_nil]); first | done | rfl | (simp only [List.length_drop, List.length_take]; rfl)) ?_; (with_reducible refine (busbarlaw0_At.calls _ _ l0 1 t243 _ ?side1 ?side2 A9.out).mono ?_); (case side1 => exact Kd.C_below HR0.out (by repeat (first | (with_reducible first | exact HB.out | apply below_alloc | apply pw_below_drewN | apply below_drew1 | refine below_set ?_ GE210.out | refine below_set ?_ GE230.out) | exact HB.out))); (case side2 => exact HC0.out); rintro e w' ⟨rfl, ⟨nd, rfl⟩⟩; refine ⟨_, rfl, ?_⟩) | ((with_reducible refine gate_callee (f := 27) rfl ?_); refine goesL_ (some 35) rfl rfl Try.func27 (by kernel_rfl) rfl #[.int .i64 t243, .int .i64 6, .int .i64 20] rfl (by (try simp only [List.map_toArray, List.map_cons, List.map_nil]); first | done | rfl | (simp only [List.length_drop, List.length_take]; rfl)) ?_; (with_reducible refine (busbarlaw0_Digit.calls t243 6 20 t244 _ A10.out).mono ?_); rintro e w' ⟨rfl, ⟨nd, rfl⟩⟩; refine ⟨_, rfl, ?_⟩) | ((with_reducible refine gate_callee (f := 26) rfl ?_); refine goesL_ (some 39) rfl rfl Try.func26 (by kernel_rfl) rfl #[.slice A0 l0.length c0, .int .i64 1] rfl (by (try simp only [List.map_toArray, List.map_cons, List.map_nil]); first | done | rfl | (simp only [List.length_drop, List.length_take]; rfl)) ?_; (with_reducible refine (busbarlaw0_At.calls _ _ l0 1 t245 _ ?side1 ?side2 A11.out).mono ?_); (case side1 => exact Kd.C_below HR0.out (by repeat (first | (with_reducible first | exact HB.out | apply below_alloc | apply pw_below_drewN | apply below_drew1 | refine below_set ?_ GE210.out | refine below_set ?_ GE230.out) | exact HB.out))); (case side2 => exact HC0.out); rintro e w' ⟨rfl, ⟨nd, rfl⟩⟩; refine ⟨_, rfl, ?_⟩) | ((with_reducible refine gate_callee (f := 27) rfl ?_); refine goesL_ (some 40) rfl rfl Try.func27 (by kernel_rfl) rfl #[.int .i64 t245, .int .i64 120, .int .i64 3] rfl (by (try simp only [List.map_toArray, List.map_cons, List.map_nil]); first | done | rfl | (simp only [List.length_drop, List.length_take]; rfl)) ?_; (with_reducible refine (busbarlaw0_Digit.calls t245 120 3 t246 _ A12.out).mono ?_); rintro e w' ⟨rfl, ⟨nd, rfl⟩⟩; refine ⟨_, rfl, ?_⟩))
 (try simp only [Act.put, List.setIfInBounds_toArray, List.set_cons_zero, List.set_cons_succ])
 go_cut [] (fun wc => ∃ (kq : Nat) (x231007_12 : Int) (x231008_12 : Int), Aside0 (busbarlaw0_Conf.j0 kq l0 y231 y234 100 (wrap64 (1 + t238)) t219 t240 2000 x231007_12 x231008_12 t224 t225 t226 t227 = some (r1, r2, r3, r4, r5, r6, r7, r8, r9, r10, r11, r12, r13)) ∧ Aside0 (kq ≤ k) ∧ Aside0 (Kd.R k46 46 wc w.heap.size (fun _ => True) (.slice Ao24 y231.length co24) y231) ∧ Aside0 (Kd.R k48 48 wc w.heap.size (fun _ => True) (.slice Ao28 y234.length co28) y234) ∧ Aside0 (Kd.R k50 50 wc w.heap.size (fun _ => True) (.slice Ao21 t227.length co21) t227) ∧ Aside0 (wc.heap[gb210]? = some (.cells #[(.slice none 0 0), (.slice none 0 0), .int .i64 0, .int .i64 0, .int .i64 0, .int .i64 0, .int .i64 0, .int .i64 0, .int .i64 0, .int .i64 0, .int .i64 0, .int .u64 0, (.slice none 0 0)] 27 (0, 0))) ∧ Aside0 (wc.heap[gb230]? = some (.cells #[(.slice Ao24 y231.length co24), (.slice Ao28 y234.length co28), .int .i64 100, .int .i64 (wrap64 (1 + t238)), .int .i64 t219, .int .i64 t240, .int .i64 2000, .int .i64 x231007_12, .int .i64 x231008_12, .int .i64 t224, .int .i64 t225, .int .u64 t226, (.slice Ao21 t227.length co21)] 27 (0, 0))) ∧ Aside0 (Below w.heap.size w wc))
 case first =>
  have H := HC13.out
  clear HC13
  by_cases c30 : t246 > 0
  ·
   rw [if_pos c30] at H
   have c30b0 : decide (0 < t246) = true := decide_eq_true c30
   clear c30
   (first | rw [c30b0] | (simp only [i64_w, i32_w]; rw [c30b0]) | skip)
   have H' := Aside0.mk H
   clear H
   have hnb31 := NB230_210.out
   have hnc31 := NB210_230.out
   obtain ⟨hcz32_0, hcz32_1, hcz32_2, hcz32_3, hcz32_4, hcz32_5, hcz32_6, hcz32_7, hcz32_8, hcz32_9, hcz32_10, hcz32_11, hcz32_12⟩ := blkc13 BK230.out
   obtain ⟨hfz32_0, hfz32_1, hfz32_2, hfz32_3, hfz32_4, hfz32_5, hfz32_6, hfz32_7, hfz32_8, hfz32_9, hfz32_10, hfz32_11, hfz32_12⟩ := blkf13 BK230.out
   go_wp2
   go_meet
   case rel => exact ⟨_, (50), (500), H', ⟨by first | omega | exact Nat.le_refl _⟩, ⟨by (with_reducible repeat (first | apply Kd.R_alloc | apply Kd.R_drewN | apply Kd.R_drew)); exact Kd.R_mono (Kd.rfR (Kd.rfR (Kd.rfR (Kd.rfR (Kd.rfR (Kd.rfR (Kd.rfR (Kd.rfR (Kd.rfR (Kd.R_types HO233.out BK230.out (by decide))))))))))) (fun _ hk => trivial)⟩, ⟨by (with_reducible repeat (first | apply Kd.R_alloc | apply Kd.R_drewN | apply Kd.R_drew)); exact Kd.R_mono (Kd.rfR (Kd.rfR (Kd.rfR (Kd.rfR (Kd.rfR (Kd.rfR (Kd.rfR (Kd.rfR (Kd.rfR (Kd.R_types HO236.out BK230.out (by decide))))))))))) (fun _ hk => trivial)⟩, ⟨by (with_reducible repeat (first | apply Kd.R_alloc | apply Kd.R_drewN | apply Kd.R_drew)); exact Kd.R_mono (Kd.rfR (Kd.rfR (Kd.rfR (Kd.rfR (Kd.rfR (Kd.rfR (Kd.rfR (Kd.rfR (Kd.rfR (Kd.R_types HO229.out BK230.out (by decide))))))))))) (fun _ hk => trivial)⟩, ⟨by (with_reducible repeat (first | refine blk_drewN ?_ _ | refine blk_drew ?_ | refine blk_alloc ?_ _)); refine blk_far ?_ NB210_230.out _; (with_reducible repeat (first | refine blk_drewN ?_ _ | refine blk_drew ?_ | refine blk_alloc ?_ _)); refine blk_far ?_ NB210_230.out _; (with_reducible repeat (first | refine blk_drewN ?_ _ | refine blk_drew ?_ | refine blk_alloc ?_ _)); refine blk_far ?_ NB210_230.out _; (with_reducible repeat (first | refine blk_drewN ?_ _ | refine blk_drew ?_ | refine blk_alloc ?_ _)); refine blk_far ?_ NB210_230.out _; (with_reducible repeat (first | refine blk_drewN ?_ _ | refine blk_drew ?_ | refine blk_alloc ?_ _)); refine blk_far ?_ NB210_230.out _; (with_reducible repeat (first | refine blk_drewN ?_ _ | refine blk_drew ?_ | refine blk_alloc ?_ _)); refine blk_far ?_ NB210_230.out _; (with_reducible repeat (first | refine blk_drewN ?_ _ | refine blk_drew ?_ | refine blk_alloc ?_ _)); refine blk_far ?_ NB210_230.out _; (with_reducible repeat (first | refine blk_drewN ?_ _ | refine blk_drew ?_ | refine blk_alloc ?_ _)); refine blk_far ?_ NB210_230.out _; (with_reducible repeat (first | refine blk_drewN ?_ _ | refine blk_drew ?_ | refine blk_alloc ?_ _)); refine blk_far ?_ NB210_230.out _; (with_reducible repeat (first | refine blk_drewN ?_ _ | refine blk_drew ?_ | refine blk_alloc ?_ _)); exact BK210.out⟩, ⟨by (with_reducible repeat (first | refine blk_drewN ?_ _ | refine blk_drew ?_ | refine blk_alloc ?_ _)); refine blk_put (cs := #[.slice Ao24 y231.length co24, .slice Ao28 y234.length co28, .int .i64 100, .int .i64 (wrap64 (1 + t238)), .int .i64 t219, .int .i64 t240, .int .i64 2000, .int .i64 50, .int .i64 (wrap64 (1 + t244)), .int .i64 t224, .int .i64 t225, .int .u64 t226, .slice Ao21 t227.length co21]) ?_ 8 _ rfl; (with_reducible repeat (first | refine blk_drewN ?_ _ | refine blk_drew ?_ | refine blk_alloc ?_ _)); refine blk_put (cs := #[.slice Ao24 y231.length co24, .slice Ao28 y234.length co28, .int .i64 100, .int .i64 (wrap64 (1 + t238)), .int .i64 t219, .int .i64 t240, .int .i64 2000, .int .i64 (wrap64 (1 + t242)), .int .i64 (wrap64 (1 + t244)), .int .i64 t224, .int .i64 t225, .int .u64 t226, .slice Ao21 t227.length co21]) ?_ 7 _ rfl; (with_reducible repeat (first | refine blk_drewN ?_ _ | refine blk_drew ?_ | refine blk_alloc ?_ _)); refine blk_put (cs := #[.slice Ao24 y231.length co24, .slice Ao28 y234.length co28, .int .i64 100, .int .i64 (wrap64 (1 + t238)), .int .i64 t219, .int .i64 t240, .int .i64 2000, .int .i64 (wrap64 (1 + t242)), .int .i64 t223, .int .i64 t224, .int .i64 t225, .int .u64 t226, .slice Ao21 t227.length co21]) ?_ 8 _ rfl; (with_reducible repeat (first | refine blk_drewN ?_ _ | refine blk_drew ?_ | refine blk_alloc ?_ _)); refine blk_put (cs := #[.slice Ao24 y231.length co24, .slice Ao28 y234.length co28, .int .i64 100, .int .i64 (wrap64 (1 + t238)), .int .i64 t219, .int .i64 t240, .int .i64 2000, .int .i64 t222, .int .i64 t223, .int .i64 t224, .int .i64 t225, .int .u64 t226, .slice Ao21 t227.length co21]) ?_ 7 _ rfl; (with_reducible repeat (first | refine blk_drewN ?_ _ | refine blk_drew ?_ | refine blk_alloc ?_ _)); refine blk_put (cs := #[.slice Ao24 y231.length co24, .slice Ao28 y234.length co28, .int .i64 100, .int .i64 (wrap64 (1 + t238)), .int .i64 t219, .int .i64 t240, .int .i64 t221, .int .i64 t222, .int .i64 t223, .int .i64 t224, .int .i64 t225, .int .u64 t226, .slice Ao21 t227.length co21]) ?_ 6 _ rfl; (with_reducible repeat (first | refine blk_drewN ?_ _ | refine blk_drew ?_ | refine blk_alloc ?_ _)); refine blk_put (cs := #[.slice Ao24 y231.length co24, .slice Ao28 y234.length co28, .int .i64 100, .int .i64 (wrap64 (1 + t238)), .int .i64 t219, .int .i64 t220, .int .i64 t221, .int .i64 t222, .int .i64 t223, .int .i64 t224, .int .i64 t225, .int .u64 t226, .slice Ao21 t227.length co21]) ?_ 5 _ rfl; (with_reducible repeat (first | refine blk_drewN ?_ _ | refine blk_drew ?_ | refine blk_alloc ?_ _)); refine blk_put (cs := #[.slice Ao24 y231.length co24, .slice Ao28 y234.length co28, .int .i64 100, .int .i64 t218, .int .i64 t219, .int .i64 t220, .int .i64 t221, .int .i64 t222, .int .i64 t223, .int .i64 t224, .int .i64 t225, .int .u64 t226, .slice Ao21 t227.length co21]) ?_ 3 _ rfl; (with_reducible repeat (first | refine blk_drewN ?_ _ | refine blk_drew ?_ | refine blk_alloc ?_ _)); refine blk_put (cs := #[.slice Ao24 y231.length co24, .slice Ao28 y234.length co28, .int .i64 t217, .int .i64 t218, .int .i64 t219, .int .i64 t220, .int .i64 t221, .int .i64 t222, .int .i64 t223, .int .i64 t224, .int .i64 t225, .int .u64 t226, .slice Ao21 t227.length co21]) ?_ 2 _ rfl; (with_reducible repeat (first | refine blk_drewN ?_ _ | refine blk_drew ?_ | refine blk_alloc ?_ _)); refine blk_put (cs := #[.slice Ao24 y231.length co24, .slice Ao20 t214.length co20, .int .i64 t217, .int .i64 t218, .int .i64 t219, .int .i64 t220, .int .i64 t221, .int .i64 t222, .int .i64 t223, .int .i64 t224, .int .i64 t225, .int .u64 t226, .slice Ao21 t227.length co21]) ?_ 1 _ rfl; (with_reducible repeat (first | refine blk_drewN ?_ _ | refine blk_drew ?_ | refine blk_alloc ?_ _)); exact BK230.out⟩, ⟨by repeat (first | (with_reducible first | exact HB.out | apply below_alloc | apply pw_below_drewN | apply below_drew1 | refine below_set ?_ GE210.out | refine below_set ?_ GE230.out) | exact HB.out)⟩⟩
  ·
   rw [if_neg c30] at H
   have c30b0 : decide (0 < t246) = false := decide_eq_false c30
   clear c30
   (first | rw [c30b0] | (simp only [i64_w, i32_w]; rw [c30b0]) | skip)
   have H' := Aside0.mk H
   clear H
   go_wp2
   go_meet
   case rel => exact ⟨_, (wrap64 (1 + t242)), (wrap64 (1 + t244)), H', ⟨by first | omega | exact Nat.le_refl _⟩, ⟨by (with_reducible repeat (first | apply Kd.R_alloc | apply Kd.R_drewN | apply Kd.R_drew)); exact Kd.R_mono (Kd.rfR (Kd.rfR (Kd.rfR (Kd.rfR (Kd.rfR (Kd.rfR (Kd.rfR (Kd.R_types HO233.out BK230.out (by decide))))))))) (fun _ hk => trivial)⟩, ⟨by (with_reducible repeat (first | apply Kd.R_alloc | apply Kd.R_drewN | apply Kd.R_drew)); exact Kd.R_mono (Kd.rfR (Kd.rfR (Kd.rfR (Kd.rfR (Kd.rfR (Kd.rfR (Kd.rfR (Kd.R_types HO236.out BK230.out (by decide))))))))) (fun _ hk => trivial)⟩, ⟨by (with_reducible repeat (first | apply Kd.R_alloc | apply Kd.R_drewN | apply Kd.R_drew)); exact Kd.R_mono (Kd.rfR (Kd.rfR (Kd.rfR (Kd.rfR (Kd.rfR (Kd.rfR (Kd.rfR (Kd.R_types HO229.out BK230.out (by decide))))))))) (fun _ hk => trivial)⟩, ⟨by (with_reducible repeat (first | refine blk_drewN ?_ _ | refine blk_drew ?_ | refine blk_alloc ?_ _)); refine blk_far ?_ NB210_230.out _; (with_reducible repeat (first | refine blk_drewN ?_ _ | refine blk_drew ?_ | refine blk_alloc ?_ _)); refine blk_far ?_ NB210_230.out _; (with_reducible repeat (first | refine blk_drewN ?_ _ | refine blk_drew ?_ | refine blk_alloc ?_ _)); refine blk_far ?_ NB210_230.out _; (with_reducible repeat (first | refine blk_drewN ?_ _ | refine blk_drew ?_ | refine blk_alloc ?_ _)); refine blk_far ?_ NB210_230.out _; (with_reducible repeat (first | refine blk_drewN ?_ _ | refine blk_drew ?_ | refine blk_alloc ?_ _)); refine blk_far ?_ NB210_230.out _; (with_reducible repeat (first | refine blk_drewN ?_ _ | refine blk_drew ?_ | refine blk_alloc ?_ _)); refine blk_far ?_ NB210_230.out _; (with_reducible repeat (first | refine blk_drewN ?_ _ | refine blk_drew ?_ | refine blk_alloc ?_ _)); refine blk_far ?_ NB210_230.out _; (with_reducible repeat (first | refine blk_drewN ?_ _ | refine blk_drew ?_ | refine blk_alloc ?_ _)); exact BK210.out⟩, ⟨by (with_reducible repeat (first | refine blk_drewN ?_ _ | refine blk_drew ?_ | refine blk_alloc ?_ _)); refine blk_put (cs := #[.slice Ao24 y231.length co24, .slice Ao28 y234.length co28, .int .i64 100, .int .i64 (wrap64 (1 + t238)), .int .i64 t219, .int .i64 t240, .int .i64 2000, .int .i64 (wrap64 (1 + t242)), .int .i64 t223, .int .i64 t224, .int .i64 t225, .int .u64 t226, .slice Ao21 t227.length co21]) ?_ 8 _ rfl; (with_reducible repeat (first | refine blk_drewN ?_ _ | refine blk_drew ?_ | refine blk_alloc ?_ _)); refine blk_put (cs := #[.slice Ao24 y231.length co24, .slice Ao28 y234.length co28, .int .i64 100, .int .i64 (wrap64 (1 + t238)), .int .i64 t219, .int .i64 t240, .int .i64 2000, .int .i64 t222, .int .i64 t223, .int .i64 t224, .int .i64 t225, .int .u64 t226, .slice Ao21 t227.length co21]) ?_ 7 _ rfl; (with_reducible repeat (first | refine blk_drewN ?_ _ | refine blk_drew ?_ | refine blk_alloc ?_ _)); refine blk_put (cs := #[.slice Ao24 y231.length co24, .slice Ao28 y234.length co28, .int .i64 100, .int .i64 (wrap64 (1 + t238)), .int .i64 t219, .int .i64 t240, .int .i64 t221, .int .i64 t222, .int .i64 t223, .int .i64 t224, .int .i64 t225, .int .u64 t226, .slice Ao21 t227.length co21]) ?_ 6 _ rfl; (with_reducible repeat (first | refine blk_drewN ?_ _ | refine blk_drew ?_ | refine blk_alloc ?_ _)); refine blk_put (cs := #[.slice Ao24 y231.length co24, .slice Ao28 y234.length co28, .int .i64 100, .int .i64 (wrap64 (1 + t238)), .int .i64 t219, .int .i64 t220, .int .i64 t221, .int .i64 t222, .int .i64 t223, .int .i64 t224, .int .i64 t225, .int .u64 t226, .slice Ao21 t227.length co21]) ?_ 5 _ rfl; (with_reducible repeat (first | refine blk_drewN ?_ _ | refine blk_drew ?_ | refine blk_alloc ?_ _)); refine blk_put (cs := #[.slice Ao24 y231.length co24, .slice Ao28 y234.length co28, .int .i64 100, .int .i64 t218, .int .i64 t219, .int .i64 t220, .int .i64 t221, .int .i64 t222, .int .i64 t223, .int .i64 t224, .int .i64 t225, .int .u64 t226, .slice Ao21 t227.length co21]) ?_ 3 _ rfl; (with_reducible repeat (first | refine blk_drewN ?_ _ | refine blk_drew ?_ | refine blk_alloc ?_ _)); refine blk_put (cs := #[.slice Ao24 y231.length co24, .slice Ao28 y234.length co28, .int .i64 t217, .int .i64 t218, .int .i64 t219, .int .i64 t220, .int .i64 t221, .int .i64 t222, .int .i64 t223, .int .i64 t224, .int .i64 t225, .int .u64 t226, .slice Ao21 t227.length co21]) ?_ 2 _ rfl; (with_reducible repeat (first | refine blk_drewN ?_ _ | refine blk_drew ?_ | refine blk_alloc ?_ _)); refine blk_put (cs := #[.slice Ao24 y231.length co24, .slice Ao20 t214.length co20, .int .i64 t217, .int .i64 t218, .int .i64 t219, .int .i64 t220, .int .i64 t221, .int .i64 t222, .int .i64 t223, .int .i64 t224, .int .i64 t225, .int .u64 t226, .slice Ao21 t227.length co21]) ?_ 1 _ rfl; (with_reducible repeat (first | refine blk_drewN ?_ _ | refine blk_drew ?_ | refine blk_alloc ?_ _)); exact BK230.out⟩, ⟨by repeat (first | (with_reducible first | exact HB.out | apply below_alloc | apply pw_below_drewN | apply below_drew1 | refine below_set ?_ GE210.out | refine below_set ?_ GE230.out) | exact HB.out)⟩⟩
 case rest =>
  clear HC13
  (try clear hcz19_0); (try clear hcz19_1); (try clear hcz19_10); (try clear hcz19_11); (try clear hcz19_12); (try clear hcz19_2); (try clear hcz19_3); (try clear hcz19_4); (try clear hcz19_5); (try clear hcz19_6); (try clear hcz19_7); (try clear hcz19_8); (try clear hcz19_9); (try clear hcz25_0); (try clear hcz25_1); (try clear hcz25_10); (try clear hcz25_11); (try clear hcz25_12); (try clear hcz25_2); (try clear hcz25_3); (try clear hcz25_4); (try clear hcz25_5); (try clear hcz25_6); (try clear hcz25_7); (try clear hcz25_8); (try clear hcz25_9); (try clear hcz29_0); (try clear hcz29_1); (try clear hcz29_10); (try clear hcz29_11); (try clear hcz29_12); (try clear hcz29_2); (try clear hcz29_3); (try clear hcz29_4); (try clear hcz29_5); (try clear hcz29_6); (try clear hcz29_7); (try clear hcz29_8); (try clear hcz29_9); (try clear hfz19_0); (try clear hfz19_1); (try clear hfz19_10); (try clear hfz19_11); (try clear hfz19_12); (try clear hfz19_2); (try clear hfz19_3); (try clear hfz19_4); (try clear hfz19_5); (try clear hfz19_6); (try clear hfz19_7); (try clear hfz19_8); (try clear hfz19_9); (try clear hfz25_0); (try clear hfz25_1); (try clear hfz25_10); (try clear hfz25_11); (try clear hfz25_12); (try clear hfz25_2); (try clear hfz25_3); (try clear hfz25_4); (try clear hfz25_5); (try clear hfz25_6); (try clear hfz25_7); (try clear hfz25_8); (try clear hfz25_9); (try clear hfz29_0); (try clear hfz29_1); (try clear hfz29_10); (try clear hfz29_11); (try clear hfz29_12); (try clear hfz29_2); (try clear hfz29_3); (try clear hfz29_4); (try clear hfz29_5); (try clear hfz29_6); (try clear hfz29_7); (try clear hfz29_8); (try clear hfz29_9)
  obtain ⟨kq, x231007_12, x231008_12, HA, HJ12, HO_231000, HO_231001, HO_231012, BK210, BK230, HB⟩ := hcut
  cases kq with
  | zero => exact absurd HA.out (by simp [busbarlaw0_Conf.j0])
  | succ kj12 =>
   have H := HA.out
   clear HA
   simp only [busbarlaw0_Conf.j0] at H
   replace H := Option.bind_eq_some_iff.mp H
   obtain ⟨t247, A330, H⟩ := H
   have A33 := Aside0.mk A330
   clear A330
   replace H := Option.bind_eq_some_iff.mp H
   obtain ⟨t248, A340, H⟩ := H
   have A34 := Aside0.mk A340
   clear A340
   have HC35 := Aside0.mk H
   clear H
   go_upto_if 47 with (first | ((with_reducible refine gate_callee (f := 26) rfl ?_); refine goesL_ (some 45) rfl rfl Try.func26 (by kernel_rfl) rfl #[.slice A0 l0.length c0, .int .i64 2] rfl (by (try simp only [List.map_toArray, List.map_cons, List.map_nil]); first | done | rfl | (simp only [List.length_drop, List.length_take]; rfl)) ?_; (with_reducible refine (busbarlaw0_At.calls _ _ l0 2 t247 _ ?side1 ?side2 A33.out).mono ?_); (case side1 => repeat (first | exact (Kd.C_below HR0.out HB.out) | (with_reducible refine Kd.C_alloc ?_ _) | (with_reducible refine Kd.C_drewN ?_ _) | (with_reducible refine Kd.C_drew ?_))); (case side2 => exact HC0.out); rintro e w' ⟨rfl, ⟨nd, rfl⟩⟩; refine ⟨_, rfl, ?_⟩) | ((with_reducible refine gate_callee (f := 12) rfl ?_); refine goesL_ (some 46) rfl rfl Try.func12 (by kernel_rfl) rfl #[.int .i64 t247, .int .i64 4] rfl (by (try simp only [List.map_toArray, List.map_cons, List.map_nil]); first | done | rfl | (simp only [List.length_drop, List.length_take]; rfl)) ?_; (with_reducible refine (busbarlaw0_Within.calls t247 4 t248 _ A34.out).mono ?_); rintro e w' ⟨rfl, ⟨nd, rfl⟩⟩; refine ⟨_, rfl, ?_⟩))
   (try simp only [Act.put, List.setIfInBounds_toArray, List.set_cons_zero, List.set_cons_succ])
   go_cut [] (fun wc => ∃ (kq : Nat) (x231006_34 : Int), Aside0 (busbarlaw0_Conf.j1 kq l0 y231 y234 100 (wrap64 (1 + t238)) t219 t240 x231006_34 x231007_12 x231008_12 t224 t225 t226 t227 = some (r1, r2, r3, r4, r5, r6, r7, r8, r9, r10, r11, r12, r13)) ∧ Aside0 (kq ≤ kj12) ∧ Aside0 (Kd.R k46 46 wc w.heap.size (fun _ => True) (.slice Ao24 y231.length co24) y231) ∧ Aside0 (Kd.R k48 48 wc w.heap.size (fun _ => True) (.slice Ao28 y234.length co28) y234) ∧ Aside0 (Kd.R k50 50 wc w.heap.size (fun _ => True) (.slice Ao21 t227.length co21) t227) ∧ Aside0 (wc.heap[gb210]? = some (.cells #[(.slice none 0 0), (.slice none 0 0), .int .i64 0, .int .i64 0, .int .i64 0, .int .i64 0, .int .i64 0, .int .i64 0, .int .i64 0, .int .i64 0, .int .i64 0, .int .u64 0, (.slice none 0 0)] 27 (0, 0))) ∧ Aside0 (wc.heap[gb230]? = some (.cells #[(.slice Ao24 y231.length co24), (.slice Ao28 y234.length co28), .int .i64 100, .int .i64 (wrap64 (1 + t238)), .int .i64 t219, .int .i64 t240, .int .i64 x231006_34, .int .i64 x231007_12, .int .i64 x231008_12, .int .i64 t224, .int .i64 t225, .int .u64 t226, (.slice Ao21 t227.length co21)] 27 (0, 0))) ∧ Aside0 (Below w.heap.size w wc))
   case first =>
    have H := HC35.out
    clear HC35
    by_cases c36 : t248 = 0
    ·
     rw [if_pos c36] at H
     have c36b0 : (t248 == 0) = true := beq_iff_eq.mpr c36
     have c36b1 : (t248 != 0) = false := bne_eq_false_iff_eq.mpr c36
     clear c36
     (first | rw [c36b0] | (simp only [i64_w, i32_w]; rw [c36b0]) | skip)
     replace H := Option.bind_eq_some_iff.mp H
     obtain ⟨t249, A370, H⟩ := H
     have A37 := Aside0.mk A370
     clear A370
     replace H := Option.bind_eq_some_iff.mp H
     obtain ⟨t250, A380, H⟩ := H
     have A38 := Aside0.mk A380
     clear A380
     have H' := Aside0.mk H
     clear H
     go_wp2_with (first | ((with_reducible refine gate_callee (f := 26) rfl ?_); refine goesL_ (some 49) rfl rfl Try.func26 (by kernel_rfl) rfl #[.slice A0 l0.length c0, .int .i64 2] rfl (by (try simp only [List.map_toArray, List.map_cons, List.map_nil]); first | done | rfl | (simp only [List.length_drop, List.length_take]; rfl)) ?_; (with_reducible refine (busbarlaw0_At.calls _ _ l0 2 t249 _ ?side1 ?side2 A37.out).mono ?_); (case side1 => repeat (first | exact (Kd.C_below HR0.out HB.out) | (with_reducible refine Kd.C_alloc ?_ _) | (with_reducible refine Kd.C_drewN ?_ _) | (with_reducible refine Kd.C_drew ?_))); (case side2 => exact HC0.out); rintro e w' ⟨rfl, ⟨nd, rfl⟩⟩; refine ⟨_, rfl, ?_⟩; (try (rw [drewN_self wc]; generalize hq_ : World.drewN wc _ = wc; replace HO_231000 := Kd.dqR HO_231000 hq_; replace HO_231001 := Kd.dqR HO_231001 hq_; replace HO_231012 := Kd.dqR HO_231012 hq_; replace BK210 := dqK BK210 hq_; replace BK230 := dqK BK230 hq_; replace HB := dqB HB hq_; clear hq_))) | ((with_reducible refine gate_callee (f := 27) rfl ?_); refine goesL_ (some 50) rfl rfl Try.func27 (by kernel_rfl) rfl #[.int .i64 t249, .int .i64 4, .int .i64 60] rfl (by (try simp only [List.map_toArray, List.map_cons, List.map_nil]); first | done | rfl | (simp only [List.length_drop, List.length_take]; rfl)) ?_; (with_reducible refine (busbarlaw0_Digit.calls t249 4 60 t250 _ A38.out).mono ?_); rintro e w' ⟨rfl, ⟨nd, rfl⟩⟩; refine ⟨_, rfl, ?_⟩; (try (rw [drewN_self wc]; generalize hq_ : World.drewN wc _ = wc; replace HO_231000 := Kd.dqR HO_231000 hq_; replace HO_231001 := Kd.dqR HO_231001 hq_; replace HO_231012 := Kd.dqR HO_231012 hq_; replace BK210 := dqK BK210 hq_; replace BK230 := dqK BK230 hq_; replace HB := dqB HB hq_; clear hq_)); have hnb39 := NB230_210.out; have hnc39 := NB210_230.out; obtain ⟨hcz40_0, hcz40_1, hcz40_2, hcz40_3, hcz40_4, hcz40_5, hcz40_6, hcz40_7, hcz40_8, hcz40_9, hcz40_10, hcz40_11, hcz40_12⟩ := blkc13 BK230.out; obtain ⟨hfz40_0, hfz40_1, hfz40_2, hfz40_3, hfz40_4, hfz40_5, hfz40_6, hfz40_7, hfz40_8, hfz40_9, hfz40_10, hfz40_11, hfz40_12⟩ := blkf13 BK230.out))
     go_meet
     case rel => exact ⟨_, (t250), H', ⟨by have := HJ12.out; first | omega | exact Nat.le_refl _⟩, ⟨by (with_reducible repeat (first | apply Kd.R_alloc | apply Kd.R_drewN | apply Kd.R_drew)); exact Kd.R_mono (Kd.rfR (Kd.R_types HO_231000.out BK230.out (by decide))) (fun _ hk => trivial)⟩, ⟨by (with_reducible repeat (first | apply Kd.R_alloc | apply Kd.R_drewN | apply Kd.R_drew)); exact Kd.R_mono (Kd.rfR (Kd.R_types HO_231001.out BK230.out (by decide))) (fun _ hk => trivial)⟩, ⟨by (with_reducible repeat (first | apply Kd.R_alloc | apply Kd.R_drewN | apply Kd.R_drew)); exact Kd.R_mono (Kd.rfR (Kd.R_types HO_231012.out BK230.out (by decide))) (fun _ hk => trivial)⟩, ⟨by (with_reducible repeat (first | refine blk_drewN ?_ _ | refine blk_drew ?_ | refine blk_alloc ?_ _)); refine blk_far ?_ NB210_230.out _; (with_reducible repeat (first | refine blk_drewN ?_ _ | refine blk_drew ?_ | refine blk_alloc ?_ _)); exact BK210.out⟩, ⟨by (with_reducible repeat (first | refine blk_drewN ?_ _ | refine blk_drew ?_ | refine blk_alloc ?_ _)); refine blk_put (cs := #[.slice Ao24 y231.length co24, .slice Ao28 y234.length co28, .int .i64 100, .int .i64 (wrap64 (1 + t238)), .int .i64 t219, .int .i64 t240, .int .i64 2000, .int .i64 x231007_12, .int .i64 x231008_12, .int .i64 t224, .int .i64 t225, .int .u64 t226, .slice Ao21 t227.length co21]) ?_ 6 _ rfl; (with_reducible repeat (first | refine blk_drewN ?_ _ | refine blk_drew ?_ | refine blk_alloc ?_ _)); exact BK230.out⟩, ⟨by repeat (first | (with_reducible first | exact HB.out | apply below_alloc | apply pw_below_drewN | apply below_drew1 | refine below_set ?_ GE210.out | refine below_set ?_ GE230.out) | exact HB.out)⟩⟩
    ·
     rw [if_neg c36] at H
     have c36b0 : (t248 == 0) = false := beq_eq_false_iff_ne.mpr c36
     have c36b1 : (t248 != 0) = true := bne_iff_ne.mpr c36
     (first | rw [c36b0] | (simp only [i64_w, i32_w]; rw [c36b0]) | skip)
     have H' := Aside0.mk H
     clear H
     go_wp2
     go_meet
     case rel => exact ⟨_, (2000), H', ⟨by have := HJ12.out; first | omega | exact Nat.le_refl _⟩, ⟨by (with_reducible repeat (first | apply Kd.R_alloc | apply Kd.R_drewN | apply Kd.R_drew)); exact HO_231000.out⟩, ⟨by (with_reducible repeat (first | apply Kd.R_alloc | apply Kd.R_drewN | apply Kd.R_drew)); exact HO_231001.out⟩, ⟨by (with_reducible repeat (first | apply Kd.R_alloc | apply Kd.R_drewN | apply Kd.R_drew)); exact HO_231012.out⟩, ⟨by (with_reducible repeat (first | refine blk_drewN ?_ _ | refine blk_drew ?_ | refine blk_alloc ?_ _)); exact BK210.out⟩, ⟨by (with_reducible repeat (first | refine blk_drewN ?_ _ | refine blk_drew ?_ | refine blk_alloc ?_ _)); exact BK230.out⟩, ⟨by repeat (first | (with_reducible first | exact HB.out | apply below_alloc | apply pw_below_drewN | apply below_drew1 | refine below_set ?_ GE210.out | refine below_set ?_ GE230.out) | exact HB.out)⟩⟩
   case rest =>
    clear HC35
    (try clear hfz29_9)
    obtain ⟨kq, x231006_34, HA, HJ34, HO_231000, HO_231001, HO_231012, BK210, BK230, HB⟩ := hcut
    cases kq with
    | zero => exact absurd HA.out (by simp [busbarlaw0_Conf.j1])
    | succ kj34 =>
     have H := HA.out
     clear HA
     simp only [busbarlaw0_Conf.j1] at H
     replace H := Option.bind_eq_some_iff.mp H
     obtain ⟨t251, A410, H⟩ := H
     have A41 := Aside0.mk A410
     clear A410
     replace H := Option.bind_eq_some_iff.mp H
     obtain ⟨t252, A420, H⟩ := H
     have A42 := Aside0.mk A420
     clear A420
     replace H := Option.bind_eq_some_iff.mp H
     obtain ⟨t253, A430, H⟩ := H
     have A43 := Aside0.mk A430
     clear A430
     replace H := Option.bind_eq_some_iff.mp H
     obtain ⟨t254, A440, H⟩ := H
     have A44 := Aside0.mk A440
     clear A440
     replace H := Option.bind_eq_some_iff.mp H
     obtain ⟨t255, A450, H⟩ := H
     have A45 := Aside0.mk A450
     clear A450
     replace H := Option.bind_eq_some_iff.mp H
     obtain ⟨t256, A460, H⟩ := H
     have A46 := Aside0.mk A460
     clear A460
     by_cases c47 : t256 = 0
     ·
      rw [if_pos c47] at H
      have c47b0 : (t256 == 0) = true := beq_iff_eq.mpr c47
      have c47b1 : (t256 != 0) = false := bne_eq_false_iff_eq.mpr c47
      clear c47
      simp only [Option.some.injEq, Prod.mk.injEq] at H
      obtain ⟨rfl, rfl, rfl, rfl, rfl, rfl, rfl, rfl, rfl, rfl, rfl, rfl, rfl⟩ := H
      go_wp2_with (first | ((with_reducible refine gate_callee (f := 26) rfl ?_); refine goesL_ (some 53) rfl rfl Try.func26 (by kernel_rfl) rfl #[.slice A0 l0.length c0, .int .i64 2] rfl (by (try simp only [List.map_toArray, List.map_cons, List.map_nil]); first | done | rfl | (simp only [List.length_drop, List.length_take]; rfl)) ?_; (with_reducible refine (busbarlaw0_At.calls _ _ l0 2 t251 _ ?side1 ?side2 A41.out).mono ?_); (case side1 => repeat (first | exact (Kd.C_below HR0.out HB.out) | (with_reducible refine Kd.C_alloc ?_ _) | (with_reducible refine Kd.C_drewN ?_ _) | (with_reducible refine Kd.C_drew ?_))); (case side2 => exact HC0.out); rintro e w' ⟨rfl, ⟨nd, rfl⟩⟩; refine ⟨_, rfl, ?_⟩; (try (rw [drewN_self wc]; generalize hq_ : World.drewN wc _ = wc; replace HO_231000 := Kd.dqR HO_231000 hq_; replace HO_231001 := Kd.dqR HO_231001 hq_; replace HO_231012 := Kd.dqR HO_231012 hq_; replace BK210 := dqK BK210 hq_; replace BK230 := dqK BK230 hq_; replace HB := dqB HB hq_; clear hq_))) | ((with_reducible refine gate_callee (f := 27) rfl ?_); refine goesL_ (some 54) rfl rfl Try.func27 (by kernel_rfl) rfl #[.int .i64 t251, .int .i64 240, .int .i64 6] rfl (by (try simp only [List.map_toArray, List.map_cons, List.map_nil]); first | done | rfl | (simp only [List.length_drop, List.length_take]; rfl)) ?_; (with_reducible refine (busbarlaw0_Digit.calls t251 240 6 t252 _ A42.out).mono ?_); rintro e w' ⟨rfl, ⟨nd, rfl⟩⟩; refine ⟨_, rfl, ?_⟩; (try (rw [drewN_self wc]; generalize hq_ : World.drewN wc _ = wc; replace HO_231000 := Kd.dqR HO_231000 hq_; replace HO_231001 := Kd.dqR HO_231001 hq_; replace HO_231012 := Kd.dqR HO_231012 hq_; replace BK210 := dqK BK210 hq_; replace BK230 := dqK BK230 hq_; replace HB := dqB HB hq_; clear hq_)); have hnb48 := NB230_210.out; have hnc48 := NB210_230.out; obtain ⟨hcz49_0, hcz49_1, hcz49_2, hcz49_3, hcz49_4, hcz49_5, hcz49_6, hcz49_7, hcz49_8, hcz49_9, hcz49_10, hcz49_11, hcz49_12⟩ := blkc13 BK230.out; obtain ⟨hfz49_0, hfz49_1, hfz49_2, hfz49_3, hfz49_4, hfz49_5, hfz49_6, hfz49_7, hfz49_8, hfz49_9, hfz49_10, hfz49_11, hfz49_12⟩ := blkf13 BK230.out) | ((with_reducible refine gate_callee (f := 26) rfl ?_); refine goesL_ (some 58) rfl rfl Try.func26 (by kernel_rfl) rfl #[.slice A0 l0.length c0, .int .i64 3] rfl (by (try simp only [List.map_toArray, List.map_cons, List.map_nil]); first | done | rfl | (simp only [List.length_drop, List.length_take]; rfl)) ?_; (with_reducible refine (busbarlaw0_At.calls _ _ l0 3 t253 _ ?side1 ?side2 A43.out).mono ?_); (case side1 => exact Kd.C_below HR0.out (by repeat (first | (with_reducible first | exact HB.out | apply below_alloc | apply pw_below_drewN | apply below_drew1 | refine below_set ?_ GE210.out | refine below_set ?_ GE230.out) | exact HB.out))); (case side2 => exact HC0.out); rintro e w' ⟨rfl, ⟨nd, rfl⟩⟩; refine ⟨_, rfl, ?_⟩) | ((with_reducible refine gate_callee (f := 12) rfl ?_); refine goesL_ (some 59) rfl rfl Try.func12 (by kernel_rfl) rfl #[.int .i64 t253, .int .i64 9] rfl (by (try simp only [List.map_toArray, List.map_cons, List.map_nil]); first | done | rfl | (simp only [List.length_drop, List.length_take]; rfl)) ?_; (with_reducible refine (busbarlaw0_Within.calls t253 9 t254 _ A44.out).mono ?_); rintro e w' ⟨rfl, ⟨nd, rfl⟩⟩; refine ⟨_, rfl, ?_⟩) | ((with_reducible refine gate_callee (f := 26) rfl ?_); refine goesL_ (some 63) rfl rfl Try.func26 (by kernel_rfl) rfl #[.slice A0 l0.length c0, .int .i64 3] rfl (by (try simp only [List.map_toArray, List.map_cons, List.map_nil]); first | done | rfl | (simp only [List.length_drop, List.length_take]; rfl)) ?_; (with_reducible refine (busbarlaw0_At.calls _ _ l0 3 t255 _ ?side1 ?side2 A45.out).mono ?_); (case side1 => exact Kd.C_below HR0.out (by repeat (first | (with_reducible first | exact HB.out | apply below_alloc | apply pw_below_drewN | apply below_drew1 | refine below_set ?_ GE210.out | refine below_set ?_ GE230.out) | exact HB.out))); (case side2 => exact HC0.out); rintro e w' ⟨rfl, ⟨nd, rfl⟩⟩; refine ⟨_, rfl, ?_⟩) | ((with_reducible refine gate_callee (f := 27) rfl ?_); refine goesL_ (some 64) rfl rfl Try.func27 (by kernel_rfl) rfl #[.int .i64 t255, .int .i64 9, .int .i64 6] rfl (by (try simp only [List.map_toArray, List.map_cons, List.map_nil]); first | done | rfl | (simp only [List.length_drop, List.length_take]; rfl)) ?_; (with_reducible refine (busbarlaw0_Digit.calls t255 9 6 t256 _ A46.out).mono ?_); rintro e w' ⟨rfl, ⟨nd, rfl⟩⟩; refine ⟨_, rfl, ?_⟩; obtain ⟨hcz50_0, hcz50_1, hcz50_2, hcz50_3, hcz50_4, hcz50_5, hcz50_6, hcz50_7, hcz50_8, hcz50_9, hcz50_10, hcz50_11, hcz50_12⟩ := blkc13 BK210.out; obtain ⟨hfz50_0, hfz50_1, hfz50_2, hfz50_3, hfz50_4, hfz50_5, hfz50_6, hfz50_7, hfz50_8, hfz50_9, hfz50_10, hfz50_11, hfz50_12⟩ := blkf13 BK210.out))
      refine bodyPost_ret (results_cell_row rfl _ _ gb210 27 #[.slice Ao24 y231.length co24, .slice Ao28 y234.length co28, .int .i64 100, .int .i64 (wrap64 (1 + t238)), .int .i64 (wrap64 (1 + t252)), .int .i64 t240, .int .i64 x231006_34, .int .i64 x231007_12, .int .i64 x231008_12, .int .i64 t224, .int .i64 t225, .int .u64 (IntKind.u64.wrap (18446744073709551615 - (IntKind.u64.wrap (t254)))), .slice Ao21 t227.length co21] (0, 0) _ rfl (by (with_reducible repeat (first | refine blk_drewN ?_ _ | refine blk_drew ?_ | refine blk_alloc ?_ _)); refine blk_put (cs := #[.slice Ao24 y231.length co24, .slice Ao28 y234.length co28, .int .i64 100, .int .i64 (wrap64 (1 + t238)), .int .i64 (wrap64 (1 + t252)), .int .i64 t240, .int .i64 x231006_34, .int .i64 x231007_12, .int .i64 x231008_12, .int .i64 t224, .int .i64 t225, .int .u64 (IntKind.u64.wrap (18446744073709551615 - (IntKind.u64.wrap (t254)))), .slice none 0 0]) ?_ 12 _ rfl; (with_reducible repeat (first | refine blk_drewN ?_ _ | refine blk_drew ?_ | refine blk_alloc ?_ _)); refine blk_put (cs := #[.slice Ao24 y231.length co24, .slice Ao28 y234.length co28, .int .i64 100, .int .i64 (wrap64 (1 + t238)), .int .i64 (wrap64 (1 + t252)), .int .i64 t240, .int .i64 x231006_34, .int .i64 x231007_12, .int .i64 x231008_12, .int .i64 t224, .int .i64 t225, .int .u64 0, .slice none 0 0]) ?_ 11 _ rfl; (with_reducible repeat (first | refine blk_drewN ?_ _ | refine blk_drew ?_ | refine blk_alloc ?_ _)); refine blk_put (cs := #[.slice Ao24 y231.length co24, .slice Ao28 y234.length co28, .int .i64 100, .int .i64 (wrap64 (1 + t238)), .int .i64 (wrap64 (1 + t252)), .int .i64 t240, .int .i64 x231006_34, .int .i64 x231007_12, .int .i64 x231008_12, .int .i64 t224, .int .i64 0, .int .u64 0, .slice none 0 0]) ?_ 10 _ rfl; (with_reducible repeat (first | refine blk_drewN ?_ _ | refine blk_drew ?_ | refine blk_alloc ?_ _)); refine blk_put (cs := #[.slice Ao24 y231.length co24, .slice Ao28 y234.length co28, .int .i64 100, .int .i64 (wrap64 (1 + t238)), .int .i64 (wrap64 (1 + t252)), .int .i64 t240, .int .i64 x231006_34, .int .i64 x231007_12, .int .i64 x231008_12, .int .i64 0, .int .i64 0, .int .u64 0, .slice none 0 0]) ?_ 9 _ rfl; (with_reducible repeat (first | refine blk_drewN ?_ _ | refine blk_drew ?_ | refine blk_alloc ?_ _)); refine blk_put (cs := #[.slice Ao24 y231.length co24, .slice Ao28 y234.length co28, .int .i64 100, .int .i64 (wrap64 (1 + t238)), .int .i64 (wrap64 (1 + t252)), .int .i64 t240, .int .i64 x231006_34, .int .i64 x231007_12, .int .i64 0, .int .i64 0, .int .i64 0, .int .u64 0, .slice none 0 0]) ?_ 8 _ rfl; (with_reducible repeat (first | refine blk_drewN ?_ _ | refine blk_drew ?_ | refine blk_alloc ?_ _)); refine blk_put (cs := #[.slice Ao24 y231.length co24, .slice Ao28 y234.length co28, .int .i64 100, .int .i64 (wrap64 (1 + t238)), .int .i64 (wrap64 (1 + t252)), .int .i64 t240, .int .i64 x231006_34, .int .i64 0, .int .i64 0, .int .i64 0, .int .i64 0, .int .u64 0, .slice none 0 0]) ?_ 7 _ rfl; (with_reducible repeat (first | refine blk_drewN ?_ _ | refine blk_drew ?_ | refine blk_alloc ?_ _)); refine blk_put (cs := #[.slice Ao24 y231.length co24, .slice Ao28 y234.length co28, .int .i64 100, .int .i64 (wrap64 (1 + t238)), .int .i64 (wrap64 (1 + t252)), .int .i64 t240, .int .i64 0, .int .i64 0, .int .i64 0, .int .i64 0, .int .i64 0, .int .u64 0, .slice none 0 0]) ?_ 6 _ rfl; (with_reducible repeat (first | refine blk_drewN ?_ _ | refine blk_drew ?_ | refine blk_alloc ?_ _)); refine blk_put (cs := #[.slice Ao24 y231.length co24, .slice Ao28 y234.length co28, .int .i64 100, .int .i64 (wrap64 (1 + t238)), .int .i64 (wrap64 (1 + t252)), .int .i64 0, .int .i64 0, .int .i64 0, .int .i64 0, .int .i64 0, .int .i64 0, .int .u64 0, .slice none 0 0]) ?_ 5 _ rfl; (with_reducible repeat (first | refine blk_drewN ?_ _ | refine blk_drew ?_ | refine blk_alloc ?_ _)); refine blk_put (cs := #[.slice Ao24 y231.length co24, .slice Ao28 y234.length co28, .int .i64 100, .int .i64 (wrap64 (1 + t238)), .int .i64 0, .int .i64 0, .int .i64 0, .int .i64 0, .int .i64 0, .int .i64 0, .int .i64 0, .int .u64 0, .slice none 0 0]) ?_ 4 _ rfl; (with_reducible repeat (first | refine blk_drewN ?_ _ | refine blk_drew ?_ | refine blk_alloc ?_ _)); refine blk_put (cs := #[.slice Ao24 y231.length co24, .slice Ao28 y234.length co28, .int .i64 100, .int .i64 0, .int .i64 0, .int .i64 0, .int .i64 0, .int .i64 0, .int .i64 0, .int .i64 0, .int .i64 0, .int .u64 0, .slice none 0 0]) ?_ 3 _ rfl; (with_reducible repeat (first | refine blk_drewN ?_ _ | refine blk_drew ?_ | refine blk_alloc ?_ _)); refine blk_put (cs := #[.slice Ao24 y231.length co24, .slice Ao28 y234.length co28, .int .i64 0, .int .i64 0, .int .i64 0, .int .i64 0, .int .i64 0, .int .i64 0, .int .i64 0, .int .i64 0, .int .i64 0, .int .u64 0, .slice none 0 0]) ?_ 2 _ rfl; (with_reducible repeat (first | refine blk_drewN ?_ _ | refine blk_drew ?_ | refine blk_alloc ?_ _)); refine blk_put (cs := #[.slice Ao24 y231.length co24, .slice none 0 0, .int .i64 0, .int .i64 0, .int .i64 0, .int .i64 0, .int .i64 0, .int .i64 0, .int .i64 0, .int .i64 0, .int .i64 0, .int .u64 0, .slice none 0 0]) ?_ 1 _ rfl; (with_reducible repeat (first | refine blk_drewN ?_ _ | refine blk_drew ?_ | refine blk_alloc ?_ _)); refine blk_put (cs := #[.slice none 0 0, .slice none 0 0, .int .i64 0, .int .i64 0, .int .i64 0, .int .i64 0, .int .i64 0, .int .i64 0, .int .i64 0, .int .i64 0, .int .i64 0, .int .u64 0, .slice none 0 0]) ?_ 0 _ rfl; (with_reducible repeat (first | refine blk_drewN ?_ _ | refine blk_drew ?_ | refine blk_alloc ?_ _)); refine blk_far ?_ NB210_230.out _; (with_reducible repeat (first | refine blk_drewN ?_ _ | refine blk_drew ?_ | refine blk_alloc ?_ _)); refine blk_far ?_ NB210_230.out _; (with_reducible repeat (first | refine blk_drewN ?_ _ | refine blk_drew ?_ | refine blk_alloc ?_ _)); refine blk_far ?_ NB210_230.out _; (with_reducible repeat (first | refine blk_drewN ?_ _ | refine blk_drew ?_ | refine blk_alloc ?_ _)); exact BK210.out) Try.underlying27 rfl (by kernel_rfl)) rfl ?_
      exact ⟨_, _, _, by first | rfl | (simp [errW_none, errW_some] <;> rfl) | (simp [*, errW_none, errW_some] <;> rfl), by (with_reducible repeat (first | apply Kd.R_alloc | apply Kd.R_drewN | apply Kd.R_drew)); exact Kd.R_mono (Kd.rfR (Kd.rfR (Kd.rfR (Kd.rfR (Kd.rfR (Kd.rfR (Kd.rfR (Kd.rfR (Kd.rfR (Kd.rfR (Kd.rfR (Kd.rfR (Kd.rfR (Kd.R_far (Kd.R_far (Kd.R_far (Kd.R_types (Kd.R_types HO_231000.out BK230.out (by decide)) BK210.out (by decide)) (fun _ hk => hk.1.2) (.int .i64 (wrap64 (1 + t252)))) (fun _ hk => hk.1.2) (.int .u64 (IntKind.u64.wrap (t254)))) (fun _ hk => hk.1.2) (.int .u64 (IntKind.u64.wrap (18446744073709551615 - (IntKind.u64.wrap (t254))))))))))))))))))) (fun _ hk => trivial), by (with_reducible repeat (first | apply Kd.R_alloc | apply Kd.R_drewN | apply Kd.R_drew)); exact Kd.R_mono (Kd.rfR (Kd.rfR (Kd.rfR (Kd.rfR (Kd.rfR (Kd.rfR (Kd.rfR (Kd.rfR (Kd.rfR (Kd.rfR (Kd.rfR (Kd.rfR (Kd.rfR (Kd.R_far (Kd.R_far (Kd.R_far (Kd.R_types (Kd.R_types HO_231001.out BK230.out (by decide)) BK210.out (by decide)) (fun _ hk => hk.1.2) (.int .i64 (wrap64 (1 + t252)))) (fun _ hk => hk.1.2) (.int .u64 (IntKind.u64.wrap (t254)))) (fun _ hk => hk.1.2) (.int .u64 (IntKind.u64.wrap (18446744073709551615 - (IntKind.u64.wrap (t254))))))))))))))))))) (fun _ hk => trivial), by (with_reducible repeat (first | apply Kd.R_alloc | apply Kd.R_drewN | apply Kd.R_drew)); exact Kd.R_mono (Kd.rfR (Kd.rfR (Kd.rfR (Kd.rfR (Kd.rfR (Kd.rfR (Kd.rfR (Kd.rfR (Kd.rfR (Kd.rfR (Kd.rfR (Kd.rfR (Kd.rfR (Kd.R_far (Kd.R_far (Kd.R_far (Kd.R_types (Kd.R_types HO_231012.out BK230.out (by decide)) BK210.out (by decide)) (fun _ hk => hk.1.2) (.int .i64 (wrap64 (1 + t252)))) (fun _ hk => hk.1.2) (.int .u64 (IntKind.u64.wrap (t254)))) (fun _ hk => hk.1.2) (.int .u64 (IntKind.u64.wrap (18446744073709551615 - (IntKind.u64.wrap (t254))))))))))))))))))) (fun _ hk => trivial), by repeat (first | (with_reducible first | exact HB.out | apply below_alloc | apply pw_below_drewN | apply below_drew1 | refine below_set ?_ GE210.out | refine below_set ?_ GE230.out) | exact HB.out)⟩
     ·
      rw [if_neg c47] at H
      have c47b0 : (t256 == 0) = false := beq_eq_false_iff_ne.mpr c47
      have c47b1 : (t256 != 0) = true := bne_iff_ne.mpr c47
      simp only [Option.some.injEq, Prod.mk.injEq] at H
      obtain ⟨rfl, rfl, rfl, rfl, rfl, rfl, rfl, rfl, rfl, rfl, rfl, rfl, rfl⟩ := H
      go_wp2_with (first | ((with_reducible refine gate_callee (f := 26) rfl ?_); refine goesL_ (some 53) rfl rfl Try.func26 (by kernel_rfl) rfl #[.slice A0 l0.length c0, .int .i64 2] rfl (by (try simp only [List.map_toArray, List.map_cons, List.map_nil]); first | done | rfl | (simp only [List.length_drop, List.length_take]; rfl)) ?_; (with_reducible refine (busbarlaw0_At.calls _ _ l0 2 t251 _ ?side1 ?side2 A41.out).mono ?_); (case side1 => repeat (first | exact (Kd.C_below HR0.out HB.out) | (with_reducible refine Kd.C_alloc ?_ _) | (with_reducible refine Kd.C_drewN ?_ _) | (with_reducible refine Kd.C_drew ?_))); (case side2 => exact HC0.out); rintro e w' ⟨rfl, ⟨nd, rfl⟩⟩; refine ⟨_, rfl, ?_⟩; (try (rw [drewN_self wc]; generalize hq_ : World.drewN wc _ = wc; replace HO_231000 := Kd.dqR HO_231000 hq_; replace HO_231001 := Kd.dqR HO_231001 hq_; replace HO_231012 := Kd.dqR HO_231012 hq_; replace BK210 := dqK BK210 hq_; replace BK230 := dqK BK230 hq_; replace HB := dqB HB hq_; clear hq_))) | ((with_reducible refine gate_callee (f := 27) rfl ?_); refine goesL_ (some 54) rfl rfl Try.func27 (by kernel_rfl) rfl #[.int .i64 t251, .int .i64 240, .int .i64 6] rfl (by (try simp only [List.map_toArray, List.map_cons, List.map_nil]); first | done | rfl | (simp only [List.length_drop, List.length_take]; rfl)) ?_; (with_reducible refine (busbarlaw0_Digit.calls t251 240 6 t252 _ A42.out).mono ?_); rintro e w' ⟨rfl, ⟨nd, rfl⟩⟩; refine ⟨_, rfl, ?_⟩; (try (rw [drewN_self wc]; generalize hq_ : World.drewN wc _ = wc; replace HO_231000 := Kd.dqR HO_231000 hq_; replace HO_231001 := Kd.dqR HO_231001 hq_; replace HO_231012 := Kd.dqR HO_231012 hq_; replace BK210 := dqK BK210 hq_; replace BK230 := dqK BK230 hq_; replace HB := dqB HB hq_; clear hq_)); have hnb51 := NB230_210.out; have hnc51 := NB210_230.out; obtain ⟨hcz52_0, hcz52_1, hcz52_2, hcz52_3, hcz52_4, hcz52_5, hcz52_6, hcz52_7, hcz52_8, hcz52_9, hcz52_10, hcz52_11, hcz52_12⟩ := blkc13 BK230.out; obtain ⟨hfz52_0, hfz52_1, hfz52_2, hfz52_3, hfz52_4, hfz52_5, hfz52_6, hfz52_7, hfz52_8, hfz52_9, hfz52_10, hfz52_11, hfz52_12⟩ := blkf13 BK230.out) | ((with_reducible refine gate_callee (f := 26) rfl ?_); refine goesL_ (some 58) rfl rfl Try.func26 (by kernel_rfl) rfl #[.slice A0 l0.length c0, .int .i64 3] rfl (by (try simp only [List.map_toArray, List.map_cons, List.map_nil]); first | done | rfl | (simp only [List.length_drop, List.length_take]; rfl)) ?_; (with_reducible refine (busbarlaw0_At.calls _ _ l0 3 t253 _ ?side1 ?side2 A43.out).mono ?_); (case side1 => exact Kd.C_below HR0.out (by repeat (first | (with_reducible first | exact HB.out | apply below_alloc | apply pw_below_drewN | apply below_drew1 | refine below_set ?_ GE210.out | refine below_set ?_ GE230.out) | exact HB.out))); (case side2 => exact HC0.out); rintro e w' ⟨rfl, ⟨nd, rfl⟩⟩; refine ⟨_, rfl, ?_⟩) | ((with_reducible refine gate_callee (f := 12) rfl ?_); refine goesL_ (some 59) rfl rfl Try.func12 (by kernel_rfl) rfl #[.int .i64 t253, .int .i64 9] rfl (by (try simp only [List.map_toArray, List.map_cons, List.map_nil]); first | done | rfl | (simp only [List.length_drop, List.length_take]; rfl)) ?_; (with_reducible refine (busbarlaw0_Within.calls t253 9 t254 _ A44.out).mono ?_); rintro e w' ⟨rfl, ⟨nd, rfl⟩⟩; refine ⟨_, rfl, ?_⟩) | ((with_reducible refine gate_callee (f := 26) rfl ?_); refine goesL_ (some 63) rfl rfl Try.func26 (by kernel_rfl) rfl #[.slice A0 l0.length c0, .int .i64 3] rfl (by (try simp only [List.map_toArray, List.map_cons, List.map_nil]); first | done | rfl | (simp only [List.length_drop, List.length_take]; rfl)) ?_; (with_reducible refine (busbarlaw0_At.calls _ _ l0 3 t255 _ ?side1 ?side2 A45.out).mono ?_); (case side1 => exact Kd.C_below HR0.out (by repeat (first | (with_reducible first | exact HB.out | apply below_alloc | apply pw_below_drewN | apply below_drew1 | refine below_set ?_ GE210.out | refine below_set ?_ GE230.out) | exact HB.out))); (case side2 => exact HC0.out); rintro e w' ⟨rfl, ⟨nd, rfl⟩⟩; refine ⟨_, rfl, ?_⟩) | ((with_reducible refine gate_callee (f := 27) rfl ?_); refine goesL_ (some 64) rfl rfl Try.func27 (by kernel_rfl) rfl #[.int .i64 t255, .int .i64 9, .int .i64 6] rfl (by (try simp only [List.map_toArray, List.map_cons, List.map_nil]); first | done | rfl | (simp only [List.length_drop, List.length_take]; rfl)) ?_; (with_reducible refine (busbarlaw0_Digit.calls t255 9 6 t256 _ A46.out).mono ?_); rintro e w' ⟨rfl, ⟨nd, rfl⟩⟩; refine ⟨_, rfl, ?_⟩; obtain ⟨hcz53_0, hcz53_1, hcz53_2, hcz53_3, hcz53_4, hcz53_5, hcz53_6, hcz53_7, hcz53_8, hcz53_9, hcz53_10, hcz53_11, hcz53_12⟩ := blkc13 BK210.out; obtain ⟨hfz53_0, hfz53_1, hfz53_2, hfz53_3, hfz53_4, hfz53_5, hfz53_6, hfz53_7, hfz53_8, hfz53_9, hfz53_10, hfz53_11, hfz53_12⟩ := blkf13 BK210.out))
      refine bodyPost_ret (results_cell_row rfl _ _ gb210 27 #[.slice Ao24 y231.length co24, .slice Ao28 y234.length co28, .int .i64 100, .int .i64 (wrap64 (1 + t238)), .int .i64 (wrap64 (1 + t252)), .int .i64 t240, .int .i64 x231006_34, .int .i64 x231007_12, .int .i64 x231008_12, .int .i64 t224, .int .i64 t225, .int .u64 (IntKind.u64.wrap (t254)), .slice Ao21 t227.length co21] (0, 0) _ rfl (by (with_reducible repeat (first | refine blk_drewN ?_ _ | refine blk_drew ?_ | refine blk_alloc ?_ _)); refine blk_put (cs := #[.slice Ao24 y231.length co24, .slice Ao28 y234.length co28, .int .i64 100, .int .i64 (wrap64 (1 + t238)), .int .i64 (wrap64 (1 + t252)), .int .i64 t240, .int .i64 x231006_34, .int .i64 x231007_12, .int .i64 x231008_12, .int .i64 t224, .int .i64 t225, .int .u64 (IntKind.u64.wrap (t254)), .slice none 0 0]) ?_ 12 _ rfl; (with_reducible repeat (first | refine blk_drewN ?_ _ | refine blk_drew ?_ | refine blk_alloc ?_ _)); refine blk_put (cs := #[.slice Ao24 y231.length co24, .slice Ao28 y234.length co28, .int .i64 100, .int .i64 (wrap64 (1 + t238)), .int .i64 (wrap64 (1 + t252)), .int .i64 t240, .int .i64 x231006_34, .int .i64 x231007_12, .int .i64 x231008_12, .int .i64 t224, .int .i64 t225, .int .u64 0, .slice none 0 0]) ?_ 11 _ rfl; (with_reducible repeat (first | refine blk_drewN ?_ _ | refine blk_drew ?_ | refine blk_alloc ?_ _)); refine blk_put (cs := #[.slice Ao24 y231.length co24, .slice Ao28 y234.length co28, .int .i64 100, .int .i64 (wrap64 (1 + t238)), .int .i64 (wrap64 (1 + t252)), .int .i64 t240, .int .i64 x231006_34, .int .i64 x231007_12, .int .i64 x231008_12, .int .i64 t224, .int .i64 0, .int .u64 0, .slice none 0 0]) ?_ 10 _ rfl; (with_reducible repeat (first | refine blk_drewN ?_ _ | refine blk_drew ?_ | refine blk_alloc ?_ _)); refine blk_put (cs := #[.slice Ao24 y231.length co24, .slice Ao28 y234.length co28, .int .i64 100, .int .i64 (wrap64 (1 + t238)), .int .i64 (wrap64 (1 + t252)), .int .i64 t240, .int .i64 x231006_34, .int .i64 x231007_12, .int .i64 x231008_12, .int .i64 0, .int .i64 0, .int .u64 0, .slice none 0 0]) ?_ 9 _ rfl; (with_reducible repeat (first | refine blk_drewN ?_ _ | refine blk_drew ?_ | refine blk_alloc ?_ _)); refine blk_put (cs := #[.slice Ao24 y231.length co24, .slice Ao28 y234.length co28, .int .i64 100, .int .i64 (wrap64 (1 + t238)), .int .i64 (wrap64 (1 + t252)), .int .i64 t240, .int .i64 x231006_34, .int .i64 x231007_12, .int .i64 0, .int .i64 0, .int .i64 0, .int .u64 0, .slice none 0 0]) ?_ 8 _ rfl; (with_reducible repeat (first | refine blk_drewN ?_ _ | refine blk_drew ?_ | refine blk_alloc ?_ _)); refine blk_put (cs := #[.slice Ao24 y231.length co24, .slice Ao28 y234.length co28, .int .i64 100, .int .i64 (wrap64 (1 + t238)), .int .i64 (wrap64 (1 + t252)), .int .i64 t240, .int .i64 x231006_34, .int .i64 0, .int .i64 0, .int .i64 0, .int .i64 0, .int .u64 0, .slice none 0 0]) ?_ 7 _ rfl; (with_reducible repeat (first | refine blk_drewN ?_ _ | refine blk_drew ?_ | refine blk_alloc ?_ _)); refine blk_put (cs := #[.slice Ao24 y231.length co24, .slice Ao28 y234.length co28, .int .i64 100, .int .i64 (wrap64 (1 + t238)), .int .i64 (wrap64 (1 + t252)), .int .i64 t240, .int .i64 0, .int .i64 0, .int .i64 0, .int .i64 0, .int .i64 0, .int .u64 0, .slice none 0 0]) ?_ 6 _ rfl; (with_reducible repeat (first | refine blk_drewN ?_ _ | refine blk_drew ?_ | refine blk_alloc ?_ _)); refine blk_put (cs := #[.slice Ao24 y231.length co24, .slice Ao28 y234.length co28, .int .i64 100, .int .i64 (wrap64 (1 + t238)), .int .i64 (wrap64 (1 + t252)), .int .i64 0, .int .i64 0, .int .i64 0, .int .i64 0, .int .i64 0, .int .i64 0, .int .u64 0, .slice none 0 0]) ?_ 5 _ rfl; (with_reducible repeat (first | refine blk_drewN ?_ _ | refine blk_drew ?_ | refine blk_alloc ?_ _)); refine blk_put (cs := #[.slice Ao24 y231.length co24, .slice Ao28 y234.length co28, .int .i64 100, .int .i64 (wrap64 (1 + t238)), .int .i64 0, .int .i64 0, .int .i64 0, .int .i64 0, .int .i64 0, .int .i64 0, .int .i64 0, .int .u64 0, .slice none 0 0]) ?_ 4 _ rfl; (with_reducible repeat (first | refine blk_drewN ?_ _ | refine blk_drew ?_ | refine blk_alloc ?_ _)); refine blk_put (cs := #[.slice Ao24 y231.length co24, .slice Ao28 y234.length co28, .int .i64 100, .int .i64 0, .int .i64 0, .int .i64 0, .int .i64 0, .int .i64 0, .int .i64 0, .int .i64 0, .int .i64 0, .int .u64 0, .slice none 0 0]) ?_ 3 _ rfl; (with_reducible repeat (first | refine blk_drewN ?_ _ | refine blk_drew ?_ | refine blk_alloc ?_ _)); refine blk_put (cs := #[.slice Ao24 y231.length co24, .slice Ao28 y234.length co28, .int .i64 0, .int .i64 0, .int .i64 0, .int .i64 0, .int .i64 0, .int .i64 0, .int .i64 0, .int .i64 0, .int .i64 0, .int .u64 0, .slice none 0 0]) ?_ 2 _ rfl; (with_reducible repeat (first | refine blk_drewN ?_ _ | refine blk_drew ?_ | refine blk_alloc ?_ _)); refine blk_put (cs := #[.slice Ao24 y231.length co24, .slice none 0 0, .int .i64 0, .int .i64 0, .int .i64 0, .int .i64 0, .int .i64 0, .int .i64 0, .int .i64 0, .int .i64 0, .int .i64 0, .int .u64 0, .slice none 0 0]) ?_ 1 _ rfl; (with_reducible repeat (first | refine blk_drewN ?_ _ | refine blk_drew ?_ | refine blk_alloc ?_ _)); refine blk_put (cs := #[.slice none 0 0, .slice none 0 0, .int .i64 0, .int .i64 0, .int .i64 0, .int .i64 0, .int .i64 0, .int .i64 0, .int .i64 0, .int .i64 0, .int .i64 0, .int .u64 0, .slice none 0 0]) ?_ 0 _ rfl; (with_reducible repeat (first | refine blk_drewN ?_ _ | refine blk_drew ?_ | refine blk_alloc ?_ _)); refine blk_far ?_ NB210_230.out _; (with_reducible repeat (first | refine blk_drewN ?_ _ | refine blk_drew ?_ | refine blk_alloc ?_ _)); refine blk_far ?_ NB210_230.out _; (with_reducible repeat (first | refine blk_drewN ?_ _ | refine blk_drew ?_ | refine blk_alloc ?_ _)); exact BK210.out) Try.underlying27 rfl (by kernel_rfl)) rfl ?_
      exact ⟨_, _, _, by first | rfl | (simp [errW_none, errW_some] <;> rfl) | (simp [*, errW_none, errW_some] <;> rfl), by (with_reducible repeat (first | apply Kd.R_alloc | apply Kd.R_drewN | apply Kd.R_drew)); exact Kd.R_mono (Kd.rfR (Kd.rfR (Kd.rfR (Kd.rfR (Kd.rfR (Kd.rfR (Kd.rfR (Kd.rfR (Kd.rfR (Kd.rfR (Kd.rfR (Kd.rfR (Kd.rfR (Kd.R_far (Kd.R_far (Kd.R_types (Kd.R_types HO_231000.out BK230.out (by decide)) BK210.out (by decide)) (fun _ hk => hk.1.2) (.int .i64 (wrap64 (1 + t252)))) (fun _ hk => hk.1.2) (.int .u64 (IntKind.u64.wrap (t254))))))))))))))))) (fun _ hk => trivial), by (with_reducible repeat (first | apply Kd.R_alloc | apply Kd.R_drewN | apply Kd.R_drew)); exact Kd.R_mono (Kd.rfR (Kd.rfR (Kd.rfR (Kd.rfR (Kd.rfR (Kd.rfR (Kd.rfR (Kd.rfR (Kd.rfR (Kd.rfR (Kd.rfR (Kd.rfR (Kd.rfR (Kd.R_far (Kd.R_far (Kd.R_types (Kd.R_types HO_231001.out BK230.out (by decide)) BK210.out (by decide)) (fun _ hk => hk.1.2) (.int .i64 (wrap64 (1 + t252)))) (fun _ hk => hk.1.2) (.int .u64 (IntKind.u64.wrap (t254))))))))))))))))) (fun _ hk => trivial), by (with_reducible repeat (first | apply Kd.R_alloc | apply Kd.R_drewN | apply Kd.R_drew)); exact Kd.R_mono (Kd.rfR (Kd.rfR (Kd.rfR (Kd.rfR (Kd.rfR (Kd.rfR (Kd.rfR (Kd.rfR (Kd.rfR (Kd.rfR (Kd.rfR (Kd.rfR (Kd.rfR (Kd.R_far (Kd.R_far (Kd.R_types (Kd.R_types HO_231012.out BK230.out (by decide)) BK210.out (by decide)) (fun _ hk => hk.1.2) (.int .i64 (wrap64 (1 + t252)))) (fun _ hk => hk.1.2) (.int .u64 (IntKind.u64.wrap (t254))))))))))))))))) (fun _ hk => trivial), by repeat (first | (with_reducible first | exact HB.out | apply below_alloc | apply pw_below_drewN | apply below_drew1 | refine below_set ?_ GE210.out | refine below_set ?_ GE230.out) | exact HB.out)⟩
end Go.Proofs.Ytjlbgopgeepiaaa.PConf
namespace Go.Proofs.Ytjlbgopgeepiaaa.PConf
open Go.RowKit Go.Proofs.YtjlbgopgeepiaaaW.PrintWords Go.Proofs.YtjlbgopgeepiaaaW.PrintLast Go.Proofs.YtjlbgopgeepiaaaW.PrintMore
attribute [local go_sem] max2_int min2_int max_two min_two max_three min_three max_four min_four plus_setCell_drewN plus_cell_same   -- for this text's walks alone
set_option linter.unusedVariables false
set_option linter.unusedSimpArgs false
mutual
def busbarlaw15_few.l0 : Nat → Int → List (S46) → List (S48) → Int → Int → Int → Int → Int → Int → Int → Int → Int → Int → List (S50) → Option (Bool)
 | 0, _, _, _, _, _, _, _, _, _, _, _, _, _, _ => none
 | k + 1, x3, x448000, x448001, x448002, x448003, x448004, x448005, x448006, x448007, x448008, x448009, x448010, x448011, x448012 => if x3 < (x448012.length : Int) then (busbarlaw15_few.j1 k x3 (decide (x3 ≤ 60)) x448000 x448001 x448002 x448003 x448004 x448005 x448006 x448007 x448008 x448009 x448010 x448011 x448012) else (busbarlaw15_few.j1 k x3 false x448000 x448001 x448002 x448003 x448004 x448005 x448006 x448007 x448008 x448009 x448010 x448011 x448012)
def busbarlaw15_few.j1 : Nat → Int → Bool → List (S46) → List (S48) → Int → Int → Int → Int → Int → Int → Int → Int → Int → Int → List (S50) → Option (Bool)
 | 0, _, _, _, _, _, _, _, _, _, _, _, _, _, _, _ => none
 | k + 1, x3, x12, x448000, x448001, x448002, x448003, x448004, x448005, x448006, x448007, x448008, x448009, x448010, x448011, x448012 => if x12 = true then (if 0 ≤ x3 then (if x3 < (x448012.length : Int) then (if (((rd_T50 x448012 x3).f1).size : Int) > 300 then (some false) else (busbarlaw15_few.l0 k (wrap64 (x3 + 1)) x448000 x448001 x448002 x448003 x448004 x448005 x448006 x448007 x448008 x448009 x448010 x448011 x448012)) else (none)) else (none)) else (if (x448000.length : Int) ≤ 40 then (if (x448001.length : Int) ≤ 40 then (some (decide ((x448012.length : Int) ≤ 60))) else (some false)) else (some false))
end
def busbarlaw15_few.f (k : Nat) (l0_0 : List (S46)) (l0_1 : List (S48)) (a0_2 : Int) (a0_3 : Int) (a0_4 : Int) (a0_5 : Int) (a0_6 : Int) (a0_7 : Int) (a0_8 : Int) (a0_9 : Int) (a0_10 : Int) (a0_11 : Int) (l0_12 : List (S50)) : Option (Bool) := busbarlaw15_few.l0 k 0 l0_0 l0_1 a0_2 a0_3 a0_4 a0_5 a0_6 a0_7 a0_8 a0_9 a0_10 a0_11 l0_12
theorem busbarlaw15_few.mono_l : ∀ k, (∀ y0 y1 y2 y3 y4 y5 y6 y7 y8 y9 y10 y11 y12 y13, LeO (busbarlaw15_few.l0 k y0 y1 y2 y3 y4 y5 y6 y7 y8 y9 y10 y11 y12 y13) (busbarlaw15_few.l0 (k + 1) y0 y1 y2 y3 y4 y5 y6 y7 y8 y9 y10 y11 y12 y13)) ∧ (∀ y0 y1 y2 y3 y4 y5 y6 y7 y8 y9 y10 y11 y12 y13 y14, LeO (busbarlaw15_few.j1 k y0 y1 y2 y3 y4 y5 y6 y7 y8 y9 y10 y11 y12 y13 y14) (busbarlaw15_few.j1 (k + 1) y0 y1 y2 y3 y4 y5 y6 y7 y8 y9 y10 y11 y12 y13 y14))
 | 0 => ⟨fun _ _ _ _ _ _ _ _ _ _ _ _ _ _ r h => by simp [busbarlaw15_few.l0] at h, fun _ _ _ _ _ _ _ _ _ _ _ _ _ _ _ r h => by simp [busbarlaw15_few.j1] at h⟩
 | k + 1 => by
  obtain ⟨ih0, ih1⟩ := busbarlaw15_few.mono_l k
  refine ⟨?_, ?_⟩
  ·
   intro y0 y1 y2 y3 y4 y5 y6 y7 y8 y9 y10 y11 y12 y13
   unfold busbarlaw15_few.l0
   repeat' first
   | (with_reducible exact ih0 _ _ _ _ _ _ _ _ _ _ _ _ _ _)
   | (with_reducible exact ih1 _ _ _ _ _ _ _ _ _ _ _ _ _ _ _)
   | (with_reducible exact LeO.refl _)
   | (with_reducible exact LeO.none _)
   | (with_reducible refine LeO.ite ?_ ?_)
   | (with_reducible refine LeO.bind ?_ (fun _ => ?_))
   | exact ih0 _ _ _ _ _ _ _ _ _ _ _ _ _ _
   | exact ih1 _ _ _ _ _ _ _ _ _ _ _ _ _ _ _
   | exact LeO.none _
   | refine LeO.ite ?_ ?_
   | refine LeO.bind ?_ (fun _ => ?_)
  ·
   intro y0 y1 y2 y3 y4 y5 y6 y7 y8 y9 y10 y11 y12 y13 y14
   unfold busbarlaw15_few.j1
   repeat' first
   | (with_reducible exact ih0 _ _ _ _ _ _ _ _ _ _ _ _ _ _)
   | (with_reducible exact ih1 _ _ _ _ _ _ _ _ _ _ _ _ _ _ _)
   | (with_reducible exact LeO.refl _)
   | (with_reducible exact LeO.none _)
   | (with_reducible refine LeO.ite ?_ ?_)
   | (with_reducible refine LeO.bind ?_ (fun _ => ?_))
   | exact ih0 _ _ _ _ _ _ _ _ _ _ _ _ _ _
   | exact ih1 _ _ _ _ _ _ _ _ _ _ _ _ _ _ _
   | exact LeO.none _
   | refine LeO.ite ?_ ?_
   | refine LeO.bind ?_ (fun _ => ?_)
theorem busbarlaw15_few.mono : ∀ a0 a1 a2 a3 a4 a5 a6 a7 a8 a9 a10 a11 a12 k, LeO (busbarlaw15_few.f k a0 a1 a2 a3 a4 a5 a6 a7 a8 a9 a10 a11 a12) (busbarlaw15_few.f (k + 1) a0 a1 a2 a3 a4 a5 a6 a7 a8 a9 a10 a11 a12) := by
 intro a0 a1 a2 a3 a4 a5 a6 a7 a8 a9 a10 a11 a12 k
 obtain ⟨ih0, ih1⟩ := busbarlaw15_few.mono_l k
 unfold busbarlaw15_few.f
 repeat' first
   | (with_reducible exact ih0 _ _ _ _ _ _ _ _ _ _ _ _ _ _)
   | (with_reducible exact ih1 _ _ _ _ _ _ _ _ _ _ _ _ _ _ _)
   | (with_reducible exact LeO.refl _)
   | (with_reducible exact LeO.none _)
   | (with_reducible refine LeO.ite ?_ ?_)
   | (with_reducible refine LeO.bind ?_ (fun _ => ?_))
   | exact ih0 _ _ _ _ _ _ _ _ _ _ _ _ _ _
   | exact ih1 _ _ _ _ _ _ _ _ _ _ _ _ _ _ _
   | exact LeO.none _
   | refine LeO.ite ?_ ?_
   | refine LeO.bind ?_ (fun _ => ?_)
set_option maxHeartbeats 8000000 in
set_option maxRecDepth 100000 in
theorem busbarlaw15_few.calls (k : Nat) (A0_0 : Option Addr) (c0_0 : Nat) (l0_0 : List (S46)) (A0_1 : Option Addr) (c0_1 : Nat) (l0_1 : List (S48)) (a0_2 : Int) (a0_3 : Int) (a0_4 : Int) (a0_5 : Int) (a0_6 : Int) (a0_7 : Int) (a0_8 : Int) (a0_9 : Int) (a0_10 : Int) (a0_11 : Int) (A0_12 : Option Addr) (c0_12 : Nat) (l0_12 : List (S50)) (r : Bool) (w : World) (hr0_0 : Kd.C k46 w A0_0 l0_0.length l0_0) (hc0_0 : l0_0.length ≤ c0_0) (hr0_1 : Kd.C k48 w A0_1 l0_1.length l0_1) (hc0_1 : l0_1.length ≤ c0_1) (hr0_12 : Kd.C k50 w A0_12 l0_12.length l0_12) (hc0_12 : l0_12.length ≤ c0_12) (h : busbarlaw15_few.f k l0_0 l0_1 a0_2 a0_3 a0_4 a0_5 a0_6 a0_7 a0_8 a0_9 a0_10 a0_11 l0_12 = some r) :
  Calls Try.prog 6 #[.agg #[.slice A0_0 l0_0.length c0_0, .slice A0_1 l0_1.length c0_1, .int .i64 a0_2, .int .i64 a0_3, .int .i64 a0_4, .int .i64 a0_5, .int .i64 a0_6, .int .i64 a0_7, .int .i64 a0_8, .int .i64 a0_9, .int .i64 a0_10, .int .u64 a0_11, .slice A0_12 l0_12.length c0_12]] w fun e w' => e = .returned (.bool r) ∧ Below w.heap.size w w' := by
 have hu27 := Try.underlying27
 have HR0_0 := Aside0.mk hr0_0
 have HC0_0 := Aside0.mk hc0_0
 clear hr0_0 hc0_0
 have HR0_1 := Aside0.mk hr0_1
 have HC0_1 := Aside0.mk hc0_1
 clear hr0_1 hc0_1
 have HR0_12 := Aside0.mk hr0_12
 have HC0_12 := Aside0.mk hc0_12
 clear hr0_12 hc0_12
 have HB := Aside0.mk (Below.refl w.heap.size w)
 have H : (busbarlaw15_few.l0 k 0 l0_0 l0_1 a0_2 a0_3 a0_4 a0_5 a0_6 a0_7 a0_8 a0_9 a0_10 a0_11 l0_12) = some r := h
 clear h
 have H' := Aside0.mk H
 clear H
 go_enter Try.func6, Try.ntmps6
 go_wp2_with (first | ((with_reducible refine gate_dst (N := 1) rfl ?_); (try (refine gate_guard (by rfl) ?_; dsimp only)); refine box_event ?hg (N := 1) ?hd (cs := #[.slice A0_0 l0_0.length c0_0, .slice A0_1 l0_1.length c0_1, .int .i64 a0_2, .int .i64 a0_3, .int .i64 a0_4, .int .i64 a0_5, .int .i64 a0_6, .int .i64 a0_7, .int .i64 a0_8, .int .i64 a0_9, .int .i64 a0_10, .int .u64 a0_11, .slice A0_12 l0_12.length c0_12]) (t := 27) ?hr ?_; (case hd => rfl); (case hg => rfl); (case hr => first | (go_simp; done) | (go_simp; rfl)); intro gb447 hg w2 hbox hb; have BK447 := Aside0.mk (hbox); have GW447 := Aside0.mk ((by rw [hg]; exact (below_size (HB.out)) : w.heap.size ≤ gb447)); have GE447 := Aside0.mk ((by rw [hg]; exact (below_size (HB.out)) : w.heap.size ≤ gb447)); replace HB := Aside0.mk (below_step (HB.out) hb); clear hb hbox hg))
 go_loopg [3] k (fun kq v3 w' => ∃ (x3_1 : Int), v3 = .int .i64 x3_1 ∧ Aside0 (busbarlaw15_few.l0 kq x3_1 l0_0 l0_1 a0_2 a0_3 a0_4 a0_5 a0_6 a0_7 a0_8 a0_9 a0_10 a0_11 l0_12 = some r) ∧ Aside0 (kq ≤ k) ∧ Aside0 (w'.heap[gb447]? = some (.cells #[(.slice A0_0 l0_0.length c0_0), (.slice A0_1 l0_1.length c0_1), .int .i64 a0_2, .int .i64 a0_3, .int .i64 a0_4, .int .i64 a0_5, .int .i64 a0_6, .int .i64 a0_7, .int .i64 a0_8, .int .i64 a0_9, .int .i64 a0_10, .int .u64 a0_11, (.slice A0_12 l0_12.length c0_12)] 27 (0, 0))) ∧ Aside0 (Below w.heap.size w w'))
 case atStart => exact ⟨(0), (by first | rfl | (simp; done) | (simp [*]; done)), H', ⟨Nat.le_refl _⟩, ⟨BK447.out⟩, ⟨HB.out⟩⟩
 case round =>
  clear H'
  obtain ⟨x3_1, rfl, HA, HK1, BK447, HB⟩ := hrel
  cases gk with
  | zero => exact absurd HA.out (by simp [busbarlaw15_few.l0])
  | succ k1 =>
   have H := HA.out
   clear HA
   simp only [busbarlaw15_few.l0] at H
   have HC3 := Aside0.mk H
   clear H
   go_upto_region 2 with (fail)
   go_cut [12] (fun v12 wc => ∃ (kq : Nat) (x12_2 : Bool), v12 = .bool x12_2 ∧ Aside0 (busbarlaw15_few.j1 kq x3_1 x12_2 l0_0 l0_1 a0_2 a0_3 a0_4 a0_5 a0_6 a0_7 a0_8 a0_9 a0_10 a0_11 l0_12 = some r) ∧ Aside0 (kq ≤ k1) ∧ Aside0 (wc.heap[gb447]? = some (.cells #[(.slice A0_0 l0_0.length c0_0), (.slice A0_1 l0_1.length c0_1), .int .i64 a0_2, .int .i64 a0_3, .int .i64 a0_4, .int .i64 a0_5, .int .i64 a0_6, .int .i64 a0_7, .int .i64 a0_8, .int .i64 a0_9, .int .i64 a0_10, .int .u64 a0_11, (.slice A0_12 l0_12.length c0_12)] 27 (0, 0))) ∧ Aside0 (Below w.heap.size w wc))
   case first =>
    have H := HC3.out
    clear HC3
    by_cases c4 : x3_1 < (l0_12.length : Int)
    ·
     rw [if_pos c4] at H
     have c4b0 : decide (x3_1 < (l0_12.length : Int)) = true := decide_eq_true c4
     clear c4
     (first | rw [c4b0] | (simp only [i64_w, i32_w]; rw [c4b0]) | skip)
     have H' := Aside0.mk H
     clear H
     obtain ⟨hcz5_0, hcz5_1, hcz5_2, hcz5_3, hcz5_4, hcz5_5, hcz5_6, hcz5_7, hcz5_8, hcz5_9, hcz5_10, hcz5_11, hcz5_12⟩ := blkc13 BK447.out
     obtain ⟨hfz5_0, hfz5_1, hfz5_2, hfz5_3, hfz5_4, hfz5_5, hfz5_6, hfz5_7, hfz5_8, hfz5_9, hfz5_10, hfz5_11, hfz5_12⟩ := blkf13 BK447.out
     go_wp2
     go_meet
     case rel => exact ⟨_, (decide (x3_1 ≤ 60)), (by first | rfl | (simp; done) | (simp [*]; done)), H', ⟨by have := HK1.out; first | omega | exact Nat.le_refl _⟩, ⟨BK447.out⟩, ⟨HB.out⟩⟩
    ·
     rw [if_neg c4] at H
     have c4b0 : decide (x3_1 < (l0_12.length : Int)) = false := decide_eq_false c4
     clear c4
     (first | rw [c4b0] | (simp only [i64_w, i32_w]; rw [c4b0]) | skip)
     have H' := Aside0.mk H
     clear H
     obtain ⟨hcz6_0, hcz6_1, hcz6_2, hcz6_3, hcz6_4, hcz6_5, hcz6_6, hcz6_7, hcz6_8, hcz6_9, hcz6_10, hcz6_11, hcz6_12⟩ := blkc13 BK447.out
     obtain ⟨hfz6_0, hfz6_1, hfz6_2, hfz6_3, hfz6_4, hfz6_5, hfz6_6, hfz6_7, hfz6_8, hfz6_9, hfz6_10, hfz6_11, hfz6_12⟩ := blkf13 BK447.out
     go_wp2
     go_meet
     case rel => exact ⟨_, (false), (by first | rfl | (simp; done) | (simp [*]; done)), H', ⟨by have := HK1.out; first | omega | exact Nat.le_refl _⟩, ⟨BK447.out⟩, ⟨HB.out⟩⟩
   case rest =>
    clear HC3
    obtain ⟨kq, x12_2, rfl, HA, HJ2, BK447, HB⟩ := hcut
    cases kq with
    | zero => exact absurd HA.out (by simp [busbarlaw15_few.j1])
    | succ kj2 =>
     have H := HA.out
     clear HA
     simp only [busbarlaw15_few.j1] at H
     by_cases c7 : x12_2 = true
     ·
      subst c7
      have H1 : (if 0 ≤ x3_1 then (if x3_1 < (l0_12.length : Int) then (if (((rd_T50 l0_12 x3_1).f1).size : Int) > 300 then (some false) else (busbarlaw15_few.l0 kj2 (wrap64 (x3_1 + 1)) l0_0 l0_1 a0_2 a0_3 a0_4 a0_5 a0_6 a0_7 a0_8 a0_9 a0_10 a0_11 l0_12)) else (none)) else (none)) = some r := by rw [if_pos rfl] at H; exact H
      clear H
      have H := H1
      clear H1
      by_cases c8 : 0 ≤ x3_1
      ·
       rw [if_pos c8] at H
       have c8b0 : decide (0 ≤ x3_1) = true := decide_eq_true c8
       clear c8
       by_cases c9 : x3_1 < (l0_12.length : Int)
       ·
        rw [if_pos c9] at H
        have c9b0 : decide (x3_1 < (l0_12.length : Int)) = true := decide_eq_true c9
        clear c9
        by_cases c10 : (((rd_T50 l0_12 x3_1).f1).size : Int) > 300
        ·
         rw [if_pos c10] at H
         have c10b0 : decide (300 < (((rd_T50 l0_12 x3_1).f1).size : Int)) = true := decide_eq_true c10
         have c10b1 : decide (300 < ((rd_T50 l0_12 x3_1).f1).size) = true := decide_eq_true (by omega)
         clear c10
         obtain rfl := Option.some.inj H
         obtain ⟨hcz11_0, hcz11_1, hcz11_2, hcz11_3, hcz11_4, hcz11_5, hcz11_6, hcz11_7, hcz11_8, hcz11_9, hcz11_10, hcz11_11, hcz11_12⟩ := blkc13 BK447.out
         obtain ⟨hfz11_0, hfz11_1, hfz11_2, hfz11_3, hfz11_4, hfz11_5, hfz11_6, hfz11_7, hfz11_8, hfz11_9, hfz11_10, hfz11_11, hfz11_12⟩ := blkf13 BK447.out
         have p448 : 0 ≤ (x3_1 : Int) := of_decide_eq_true (by first | (with_reducible assumption) | assumption)
         have q448 : x3_1 < (l0_12.length : Int) := of_decide_eq_true (by first | (with_reducible assumption) | assumption)
         obtain ⟨ad448, e448, hx448_0, hx448_1⟩ := at_T50 HR0_12.out x3_1 p448 q448
         cases e448
         replace hx448_0 := (HB.out.cell (World.block_lt_of_cell? w _ hx448_0)).trans hx448_0
         replace hx448_1 := (HB.out.cell (World.block_lt_of_cell? w _ hx448_1)).trans hx448_1
         replace p448 := eq_true p448
         replace q448 := eq_true q448
         go_wp2
         go_ret
         exact ⟨by first | rfl | (simp [errW_none, errW_some] <;> rfl) | (simp [*, errW_none, errW_some] <;> rfl), HB.out⟩
        ·
         rw [if_neg c10] at H
         have c10b0 : decide (300 < (((rd_T50 l0_12 x3_1).f1).size : Int)) = false := decide_eq_false c10
         have c10b1 : decide (300 < ((rd_T50 l0_12 x3_1).f1).size) = false := decide_eq_false (by omega)
         clear c10
         have H' := Aside0.mk H
         clear H
         obtain ⟨hcz12_0, hcz12_1, hcz12_2, hcz12_3, hcz12_4, hcz12_5, hcz12_6, hcz12_7, hcz12_8, hcz12_9, hcz12_10, hcz12_11, hcz12_12⟩ := blkc13 BK447.out
         obtain ⟨hfz12_0, hfz12_1, hfz12_2, hfz12_3, hfz12_4, hfz12_5, hfz12_6, hfz12_7, hfz12_8, hfz12_9, hfz12_10, hfz12_11, hfz12_12⟩ := blkf13 BK447.out
         have p448 : 0 ≤ (x3_1 : Int) := of_decide_eq_true (by first | (with_reducible assumption) | assumption)
         have q448 : x3_1 < (l0_12.length : Int) := of_decide_eq_true (by first | (with_reducible assumption) | assumption)
         obtain ⟨ad448, e448, hx448_0, hx448_1⟩ := at_T50 HR0_12.out x3_1 p448 q448
         cases e448
         replace hx448_0 := (HB.out.cell (World.block_lt_of_cell? w _ hx448_0)).trans hx448_0
         replace hx448_1 := (HB.out.cell (World.block_lt_of_cell? w _ hx448_1)).trans hx448_1
         replace p448 := eq_true p448
         replace q448 := eq_true q448
         go_wp2
         go_roundg kj2
         case measure => have := HK1.out; have := HJ2.out; omega
         case rel => exact ⟨(wrap64 (x3_1 + 1)), (by first | rfl | (simp; done) | (simp [*]; done)), H', ⟨by have := HK1.out; have := HJ2.out; omega⟩, ⟨BK447.out⟩, ⟨HB.out⟩⟩
       ·
        rw [if_neg c9] at H
        exact absurd H (by simp)
      ·
       rw [if_neg c8] at H
       exact absurd H (by simp)
     ·
      replace c7 := Bool.eq_false_iff.mpr c7
      subst c7
      have H1 : (if (l0_0.length : Int) ≤ 40 then (if (l0_1.length : Int) ≤ 40 then (some (decide ((l0_12.length : Int) ≤ 60))) else (some false)) else (some false)) = some r := by rw [if_neg (show ¬ (false = true) by decide)] at H; exact H
      clear H
      have H := H1
      clear H1
      by_cases c13 : (l0_0.length : Int) ≤ 40
      ·
       rw [if_pos c13] at H
       have c13b0 : decide ((l0_0.length : Int) ≤ 40) = true := decide_eq_true c13
       have c13b1 : decide (l0_0.length ≤ 40) = true := decide_eq_true (by omega)
       clear c13
       by_cases c14 : (l0_1.length : Int) ≤ 40
       ·
        rw [if_pos c14] at H
        have c14b0 : decide ((l0_1.length : Int) ≤ 40) = true := decide_eq_true c14
        have c14b1 : decide (l0_1.length ≤ 40) = true := decide_eq_true (by omega)
        clear c14
        obtain rfl := Option.some.inj H
        obtain ⟨hcz15_0, hcz15_1, hcz15_2, hcz15_3, hcz15_4, hcz15_5, hcz15_6, hcz15_7, hcz15_8, hcz15_9, hcz15_10, hcz15_11, hcz15_12⟩ := blkc13 BK447.out
        obtain ⟨hfz15_0, hfz15_1, hfz15_2, hfz15_3, hfz15_4, hfz15_5, hfz15_6, hfz15_7, hfz15_8, hfz15_9, hfz15_10, hfz15_11, hfz15_12⟩ := blkf13 BK447.out
        go_wp2
        go_ret
        exact ⟨by first | rfl | (simp [errW_none, errW_some] <;> rfl) | (simp [*, errW_none, errW_some] <;> rfl), HB.out⟩
       ·
        rw [if_neg c14] at H
        have c14b0 : decide ((l0_1.length : Int) ≤ 40) = false := decide_eq_false c14
        have c14b1 : decide (l0_1.length ≤ 40) = false := decide_eq_false (by omega)
        clear c14
        obtain rfl := Option.some.inj H
        obtain ⟨hcz16_0, hcz16_1, hcz16_2, hcz16_3, hcz16_4, hcz16_5, hcz16_6, hcz16_7, hcz16_8, hcz16_9, hcz16_10, hcz16_11, hcz16_12⟩ := blkc13 BK447.out
        obtain ⟨hfz16_0, hfz16_1, hfz16_2, hfz16_3, hfz16_4, hfz16_5, hfz16_6, hfz16_7, hfz16_8, hfz16_9, hfz16_10, hfz16_11, hfz16_12⟩ := blkf13 BK447.out
        go_wp2
        go_ret
        exact ⟨by first | rfl | (simp [errW_none, errW_some] <;> rfl) | (simp [*, errW_none, errW_some] <;> rfl), HB.out⟩
      ·
       rw [if_neg c13] at H
       have c13b0 : decide ((l0_0.length : Int) ≤ 40) = false := decide_eq_false c13
       have c13b1 : decide (l0_0.length ≤ 40) = false := decide_eq_false (by omega)
       clear c13
       obtain rfl := Option.some.inj H
       obtain ⟨hcz17_0, hcz17_1, hcz17_2, hcz17_3, hcz17_4, hcz17_5, hcz17_6, hcz17_7, hcz17_8, hcz17_9, hcz17_10, hcz17_11, hcz17_12⟩ := blkc13 BK447.out
       obtain ⟨hfz17_0, hfz17_1, hfz17_2, hfz17_3, hfz17_4, hfz17_5, hfz17_6, hfz17_7, hfz17_8, hfz17_9, hfz17_10, hfz17_11, hfz17_12⟩ := blkf13 BK447.out
       go_wp2
       go_ret
       exact ⟨by first | rfl | (simp [errW_none, errW_some] <;> rfl) | (simp [*, errW_none, errW_some] <;> rfl), HB.out⟩
end Go.Proofs.Ytjlbgopgeepiaaa.PConf
namespace Go.Proofs.Ytjlbgopgeepiaaa.PConf
open Go.RowKit Go.Proofs.YtjlbgopgeepiaaaW.PrintWords Go.Proofs.YtjlbgopgeepiaaaW.PrintLast Go.Proofs.YtjlbgopgeepiaaaW.PrintMore
attribute [local go_sem] max2_int min2_int max_two min_two max_three min_three max_four min_four plus_setCell_drewN plus_cell_same   -- for this text's walks alone
set_option linter.unusedVariables false
set_option linter.unusedSimpArgs false
def busbarref12_Right.f (a0_0 : Int) (a0_1 : Int) (a0_2 : Int) : Option (Bool) := if a0_0 ≥ 0 then (if a0_0 ≤ 3 then (if a0_1 ≥ 0 then (if a0_2 ≤ 65536 then (some (decide (a0_1 < a0_2))) else (some false)) else (some false)) else (some false)) else (some false)
set_option maxHeartbeats 8000000 in
set_option maxRecDepth 100000 in
theorem busbarref12_Right.calls (a0_0 : Int) (a0_1 : Int) (a0_2 : Int) (r : Bool) (w : World) (h : busbarref12_Right.f a0_0 a0_1 a0_2 = some r) :
  Calls Try.prog 54 #[.agg #[.int .i64 a0_0, .int .i64 a0_1, .int .i64 a0_2]] w fun e w' => e = .returned (.bool r) ∧ Below w.heap.size w w' := by
 have hu46 := Try.underlying46
 have HB := Aside0.mk (Below.refl w.heap.size w)
 have H : (if a0_0 ≥ 0 then (if a0_0 ≤ 3 then (if a0_1 ≥ 0 then (if a0_2 ≤ 65536 then (some (decide (a0_1 < a0_2))) else (some false)) else (some false)) else (some false)) else (some false)) = some r := h
 clear h
 by_cases c2 : a0_0 ≥ 0
 ·
  rw [if_pos c2] at H
  have c2b0 : decide (0 ≤ a0_0) = true := decide_eq_true c2
  clear c2
  by_cases c3 : a0_0 ≤ 3
  ·
   rw [if_pos c3] at H
   have c3b0 : decide (a0_0 ≤ 3) = true := decide_eq_true c3
   clear c3
   by_cases c4 : a0_1 ≥ 0
   ·
    rw [if_pos c4] at H
    have c4b0 : decide (0 ≤ a0_1) = true := decide_eq_true c4
    clear c4
    by_cases c5 : a0_2 ≤ 65536
    ·
     rw [if_pos c5] at H
     have c5b0 : decide (a0_2 ≤ 65536) = true := decide_eq_true c5
     clear c5
     obtain rfl := Option.some.inj H
     go_enter Try.func54, Try.ntmps54
     go_wp2_with (first | ((with_reducible refine gate_dst (N := 1) rfl ?_); refine box_event ?hg (N := 1) ?hd (cs := #[.int .i64 a0_0, .int .i64 a0_1, .int .i64 a0_2]) (t := 46) ?hr ?_; (case hd => rfl); (case hg => rfl); (case hr => first | (go_simp; done) | (go_simp; rfl)); intro gb449 hg w6 hbox hb; have BK449 := Aside0.mk (hbox); have GW449 := Aside0.mk ((by rw [hg]; exact (below_size (HB.out)) : w.heap.size ≤ gb449)); have GE449 := Aside0.mk ((by rw [hg]; exact (below_size (HB.out)) : w.heap.size ≤ gb449)); replace HB := Aside0.mk (below_step (HB.out) hb); clear hb hbox hg; obtain ⟨hcz7_0, hcz7_1, hcz7_2⟩ := blkc3 BK449.out; obtain ⟨hfz7_0, hfz7_1, hfz7_2⟩ := blkf3 BK449.out))
     go_ret
     exact ⟨by first | rfl | (simp [errW_none, errW_some] <;> rfl) | (simp [*, errW_none, errW_some] <;> rfl), HB.out⟩
    ·
     rw [if_neg c5] at H
     have c5b0 : decide (a0_2 ≤ 65536) = false := decide_eq_false c5
     clear c5
     obtain rfl := Option.some.inj H
     go_enter Try.func54, Try.ntmps54
     go_wp2_with (first | ((with_reducible refine gate_dst (N := 1) rfl ?_); refine box_event ?hg (N := 1) ?hd (cs := #[.int .i64 a0_0, .int .i64 a0_1, .int .i64 a0_2]) (t := 46) ?hr ?_; (case hd => rfl); (case hg => rfl); (case hr => first | (go_simp; done) | (go_simp; rfl)); intro gb449 hg w8 hbox hb; have BK449 := Aside0.mk (hbox); have GW449 := Aside0.mk ((by rw [hg]; exact (below_size (HB.out)) : w.heap.size ≤ gb449)); have GE449 := Aside0.mk ((by rw [hg]; exact (below_size (HB.out)) : w.heap.size ≤ gb449)); replace HB := Aside0.mk (below_step (HB.out) hb); clear hb hbox hg; obtain ⟨hcz9_0, hcz9_1, hcz9_2⟩ := blkc3 BK449.out; obtain ⟨hfz9_0, hfz9_1, hfz9_2⟩ := blkf3 BK449.out))
     go_ret
     exact ⟨by first | rfl | (simp [errW_none, errW_some] <;> rfl) | (simp [*, errW_none, errW_some] <;> rfl), HB.out⟩
   ·
    rw [if_neg c4] at H
    have c4b0 : decide (0 ≤ a0_1) = false := decide_eq_false c4
    clear c4
    obtain rfl := Option.some.inj H
    go_enter Try.func54, Try.ntmps54
    go_wp2_with (first | ((with_reducible refine gate_dst (N := 1) rfl ?_); refine box_event ?hg (N := 1) ?hd (cs := #[.int .i64 a0_0, .int .i64 a0_1, .int .i64 a0_2]) (t := 46) ?hr ?_; (case hd => rfl); (case hg => rfl); (case hr => first | (go_simp; done) | (go_simp; rfl)); intro gb449 hg w10 hbox hb; have BK449 := Aside0.mk (hbox); have GW449 := Aside0.mk ((by rw [hg]; exact (below_size (HB.out)) : w.heap.size ≤ gb449)); have GE449 := Aside0.mk ((by rw [hg]; exact (below_size (HB.out)) : w.heap.size ≤ gb449)); replace HB := Aside0.mk (below_step (HB.out) hb); clear hb hbox hg; obtain ⟨hcz11_0, hcz11_1, hcz11_2⟩ := blkc3 BK449.out; obtain ⟨hfz11_0, hfz11_1, hfz11_2⟩ := blkf3 BK449.out))
    go_ret
    exact ⟨by first | rfl | (simp [errW_none, errW_some] <;> rfl) | (simp [*, errW_none, errW_some] <;> rfl), HB.out⟩
  ·
   rw [if_neg c3] at H
   have c3b0 : decide (a0_0 ≤ 3) = false := decide_eq_false c3
   clear c3
   obtain rfl := Option.some.inj H
   go_enter Try.func54, Try.ntmps54
   go_wp2_with (first | ((with_reducible refine gate_dst (N := 1) rfl ?_); refine box_event ?hg (N := 1) ?hd (cs := #[.int .i64 a0_0, .int .i64 a0_1, .int .i64 a0_2]) (t := 46) ?hr ?_; (case hd => rfl); (case hg => rfl); (case hr => first | (go_simp; done) | (go_simp; rfl)); intro gb449 hg w12 hbox hb; have BK449 := Aside0.mk (hbox); have GW449 := Aside0.mk ((by rw [hg]; exact (below_size (HB.out)) : w.heap.size ≤ gb449)); have GE449 := Aside0.mk ((by rw [hg]; exact (below_size (HB.out)) : w.heap.size ≤ gb449)); replace HB := Aside0.mk (below_step (HB.out) hb); clear hb hbox hg; obtain ⟨hcz13_0, hcz13_1, hcz13_2⟩ := blkc3 BK449.out; obtain ⟨hfz13_0, hfz13_1, hfz13_2⟩ := blkf3 BK449.out))
   go_ret
   exact ⟨by first | rfl | (simp [errW_none, errW_some] <;> rfl) | (simp [*, errW_none, errW_some] <;> rfl), HB.out⟩
 ·
  rw [if_neg c2] at H
  have c2b0 : decide (0 ≤ a0_0) = false := decide_eq_false c2
  clear c2
  obtain rfl := Option.some.inj H
  go_enter Try.func54, Try.ntmps54
  go_wp2_with (first | ((with_reducible refine gate_dst (N := 1) rfl ?_); refine box_event ?hg (N := 1) ?hd (cs := #[.int .i64 a0_0, .int .i64 a0_1, .int .i64 a0_2]) (t := 46) ?hr ?_; (case hd => rfl); (case hg => rfl); (case hr => first | (go_simp; done) | (go_simp; rfl)); intro gb449 hg w14 hbox hb; have BK449 := Aside0.mk (hbox); have GW449 := Aside0.mk ((by rw [hg]; exact (below_size (HB.out)) : w.heap.size ≤ gb449)); have GE449 := Aside0.mk ((by rw [hg]; exact (below_size (HB.out)) : w.heap.size ≤ gb449)); replace HB := Aside0.mk (below_step (HB.out) hb); clear hb hbox hg; obtain ⟨hcz15_0, hcz15_1, hcz15_2⟩ := blkc3 BK449.out; obtain ⟨hfz15_0, hfz15_1, hfz15_2⟩ := blkf3 BK449.out))
  go_ret
  exact ⟨by first | rfl | (simp [errW_none, errW_some] <;> rfl) | (simp [*, errW_none, errW_some] <;> rfl), HB.out⟩
end Go.Proofs.Ytjlbgopgeepiaaa.PConf
namespace Go.Proofs.Ytjlbgopgeepiaaa.PConf
open Go.RowKit Go.Proofs.YtjlbgopgeepiaaaW.PrintWords Go.Proofs.YtjlbgopgeepiaaaW.PrintLast Go.Proofs.YtjlbgopgeepiaaaW.PrintMore
attribute [local go_sem] max2_int min2_int max_two min_two max_three min_three max_four min_four plus_setCell_drewN plus_cell_same   -- for this text's walks alone
set_option linter.unusedVariables false
set_option linter.unusedSimpArgs false
def busbarref12_Canon.l0 : Nat → List (S46) → Int → Option (Bool)
 | 0, _, _ => none
 | k + 1, x0, x3 => if x3 < (x0.length : Int) then (if 0 ≤ x3 then ((busbarref12_Right.f ((rd_T46 x0 x3).f0) ((rd_T46 x0 x3).f1) ((rd_T46 x0 x3).f2)).bind fun t451 => (if t451 = true then (if x3 > 0 then (if 0 ≤ (wrap64 (x3 - 1)) then (if (wrap64 (x3 - 1)) < (x0.length : Int) then (if ((rd_T46 x0 (wrap64 (x3 - 1))).f0) > ((rd_T46 x0 x3).f0) then (some false) else (if ((rd_T46 x0 (wrap64 (x3 - 1))).f0) = ((rd_T46 x0 x3).f0) then (if ((rd_T46 x0 (wrap64 (x3 - 1))).f2) ≥ ((rd_T46 x0 x3).f1) then (some false) else (busbarref12_Canon.l0 k x0 (wrap64 (x3 + 1)))) else (busbarref12_Canon.l0 k x0 (wrap64 (x3 + 1))))) else (none)) else (none)) else (busbarref12_Canon.l0 k x0 (wrap64 (x3 + 1)))) else (some false))) else (none)) else (some true)
def busbarref12_Canon.f (k : Nat) (l0 : List (S46)) : Option (Bool) := busbarref12_Canon.l0 k l0 0
theorem busbarref12_Canon.mono_l : ∀ k, (∀ y0 y1, LeO (busbarref12_Canon.l0 k y0 y1) (busbarref12_Canon.l0 (k + 1) y0 y1))
 | 0 => fun _ _ r h => by simp [busbarref12_Canon.l0] at h
 | k + 1 => by
  have ih0 := busbarref12_Canon.mono_l k
  ·
   intro y0 y1
   unfold busbarref12_Canon.l0
   repeat' first
   | (with_reducible exact ih0 _ _)
   | (with_reducible exact LeO.refl _)
   | (with_reducible exact LeO.none _)
   | (with_reducible refine LeO.ite ?_ ?_)
   | (with_reducible refine LeO.bind ?_ (fun _ => ?_))
   | exact ih0 _ _
   | exact LeO.none _
   | refine LeO.ite ?_ ?_
   | refine LeO.bind ?_ (fun _ => ?_)
theorem busbarref12_Canon.mono : ∀ a0 k, LeO (busbarref12_Canon.f k a0) (busbarref12_Canon.f (k + 1) a0) := by
 intro a0 k
 have ih0 := busbarref12_Canon.mono_l k
 unfold busbarref12_Canon.f
 repeat' first
   | (with_reducible exact ih0 _ _)
   | (with_reducible exact LeO.refl _)
   | (with_reducible exact LeO.none _)
   | (with_reducible refine LeO.ite ?_ ?_)
   | (with_reducible refine LeO.bind ?_ (fun _ => ?_))
   | exact ih0 _ _
   | exact LeO.none _
   | refine LeO.ite ?_ ?_
   | refine LeO.bind ?_ (fun _ => ?_)
set_option maxHeartbeats 8000000 in
set_option maxRecDepth 100000 in
theorem busbarref12_Canon.calls (k : Nat) (A0 : Option Addr) (c0 : Nat) (l0 : List (S46)) (r : Bool) (w : World) (hr0 : Kd.C k46 w A0 l0.length l0) (hc0 : l0.length ≤ c0) (h : busbarref12_Canon.f k l0 = some r) :
  Calls Try.prog 43 #[.slice A0 l0.length c0] w fun e w' => e = .returned (.bool r) ∧ Below w.heap.size w w' := by
 have hu46 := Try.underlying46
 have HR0 := Aside0.mk hr0
 have HC0 := Aside0.mk hc0
 clear hr0 hc0
 have HB := Aside0.mk (Below.refl w.heap.size w)
 have H : (busbarref12_Canon.l0 k l0 0) = some r := h
 clear h
 have H' := Aside0.mk H
 clear H
 go_enter Try.func43, Try.ntmps43
 go_wp2
 repeat (go_quiet (fail); try go_wp2)
 go_loopg [3] k (fun kq v3 w' => ∃ (x3_1 : Int), v3 = .int .i64 x3_1 ∧ Aside0 (busbarref12_Canon.l0 kq l0 x3_1 = some r) ∧ Aside0 (kq ≤ k) ∧ Aside0 (Below w.heap.size w w'))
 case atStart => exact ⟨(0), (by first | rfl | (simp; done) | (simp [*]; done)), H', ⟨Nat.le_refl _⟩, ⟨HB.out⟩⟩
 case round =>
  clear H'
  obtain ⟨x3_1, rfl, HA, HK1, HB⟩ := hrel
  cases gk with
  | zero => exact absurd HA.out (by simp [busbarref12_Canon.l0])
  | succ k1 =>
   have H := HA.out
   clear HA
   simp only [busbarref12_Canon.l0] at H
   by_cases c2 : x3_1 < (l0.length : Int)
   ·
    rw [if_pos c2] at H
    have c2b0 : decide (x3_1 < (l0.length : Int)) = true := decide_eq_true c2
    clear c2
    by_cases c3 : 0 ≤ x3_1
    ·
     rw [if_pos c3] at H
     have c3b0 : decide (0 ≤ x3_1) = true := decide_eq_true c3
     clear c3
     replace H := Option.bind_eq_some_iff.mp H
     obtain ⟨t451, A40, H⟩ := H
     have A4 := Aside0.mk A40
     clear A40
     by_cases c5 : t451 = true
     ·
      subst c5
      have H1 : (if x3_1 > 0 then (if 0 ≤ (wrap64 (x3_1 - 1)) then (if (wrap64 (x3_1 - 1)) < (l0.length : Int) then (if ((rd_T46 l0 (wrap64 (x3_1 - 1))).f0) > ((rd_T46 l0 x3_1).f0) then (some false) else (if ((rd_T46 l0 (wrap64 (x3_1 - 1))).f0) = ((rd_T46 l0 x3_1).f0) then (if ((rd_T46 l0 (wrap64 (x3_1 - 1))).f2) ≥ ((rd_T46 l0 x3_1).f1) then (some false) else (busbarref12_Canon.l0 k1 l0 (wrap64 (x3_1 + 1)))) else (busbarref12_Canon.l0 k1 l0 (wrap64 (x3_1 + 1))))) else (none)) else (none)) else (busbarref12_Canon.l0 k1 l0 (wrap64 (x3_1 + 1)))) = some r := by rw [if_pos rfl] at H; exact H
      clear H
      have H := H1
      clear H1
      by_cases c6 : x3_1 > 0
      ·
       rw [if_pos c6] at H
       have c6b0 : decide (0 < x3_1) = true := decide_eq_true c6
       clear c6
       obtain ⟨ji7, hji7⟩ : ∃ j_ : Int, (wrap64 (x3_1 - 1)) = j_ := ⟨_, rfl⟩
       replace H : (if 0 ≤ (ji7) then (if (ji7) < (l0.length : Int) then (if ((rd_T46 l0 (ji7)).f0) > ((rd_T46 l0 x3_1).f0) then (some false) else (if ((rd_T46 l0 (ji7)).f0) = ((rd_T46 l0 x3_1).f0) then (if ((rd_T46 l0 (ji7)).f2) ≥ ((rd_T46 l0 x3_1).f1) then (some false) else (busbarref12_Canon.l0 k1 l0 (wrap64 (x3_1 + 1)))) else (busbarref12_Canon.l0 k1 l0 (wrap64 (x3_1 + 1))))) else (none)) else (none)) = some r := by first | (rw [hji7] at H; exact H) | (simp only [hji7] at H ⊢; exact H)
       (try rw [hji7] at A4)
       have hji7w : (IntKind.i64.wrap (x3_1 - 1)) = ji7 := (i64_w _).trans hji7
       by_cases c8 : 0 ≤ (ji7)
       ·
        rw [if_pos c8] at H
        have c8b0 : decide (0 ≤ (ji7)) = true := decide_eq_true c8
        clear c8
        by_cases c9 : (ji7) < (l0.length : Int)
        ·
         rw [if_pos c9] at H
         have c9b0 : decide ((ji7) < (l0.length : Int)) = true := decide_eq_true c9
         clear c9
         by_cases c10 : ((rd_T46 l0 (ji7)).f0) > ((rd_T46 l0 x3_1).f0)
         ·
          rw [if_pos c10] at H
          have c10b0 : decide (((rd_T46 l0 x3_1).f0) < ((rd_T46 l0 (ji7)).f0)) = true := decide_eq_true c10
          clear c10
          obtain rfl := Option.some.inj H
          have p450 : 0 ≤ (x3_1 : Int) := of_decide_eq_true (by first | (with_reducible assumption) | assumption)
          have q450 : x3_1 < (l0.length : Int) := of_decide_eq_true (by first | (with_reducible assumption) | assumption)
          obtain ⟨ad450, e450, hx450_0, hx450_1, hx450_2⟩ := at_T46 HR0.out x3_1 p450 q450
          cases e450
          replace hx450_0 := (HB.out.cell (World.block_lt_of_cell? w _ hx450_0)).trans hx450_0
          replace hx450_1 := (HB.out.cell (World.block_lt_of_cell? w _ hx450_1)).trans hx450_1
          replace hx450_2 := (HB.out.cell (World.block_lt_of_cell? w _ hx450_2)).trans hx450_2
          replace p450 := eq_true p450
          replace q450 := eq_true q450
          go_wp2_with (first | (go_at_call 54; (with_reducible refine (busbarref12_Right.calls ((rd_T46 l0 x3_1).f0) ((rd_T46 l0 x3_1).f1) ((rd_T46 l0 x3_1).f2) true _ A4.out).mono ?_); rintro e w11 ⟨rfl, hb⟩; replace HB := Aside0.mk (below_step (HB.out) hb); (try clear hb); have p452 : 0 ≤ ((ji7) : Int) := of_decide_eq_true (by first | (with_reducible assumption) | assumption); have q452 : (ji7) < (l0.length : Int) := of_decide_eq_true (by first | (with_reducible assumption) | assumption); obtain ⟨ad452, e452, hx452_0, hx452_1, hx452_2⟩ := at_T46 HR0.out (ji7) p452 q452; obtain rfl : ad450 = ad452 := (by injection e452); replace hx452_0 := (HB.out.cell (World.block_lt_of_cell? w _ hx452_0)).trans hx452_0; replace hx452_1 := (HB.out.cell (World.block_lt_of_cell? w _ hx452_1)).trans hx452_1; replace hx452_2 := (HB.out.cell (World.block_lt_of_cell? w _ hx452_2)).trans hx452_2; replace p452 := eq_true p452; replace q452 := eq_true q452; have p453 : 0 ≤ (x3_1 : Int) := of_decide_eq_true (by first | (with_reducible assumption) | assumption); have q453 : x3_1 < (l0.length : Int) := of_decide_eq_true (by first | (with_reducible assumption) | assumption); obtain ⟨ad453, e453, hx453_0, hx453_1, hx453_2⟩ := at_T46 HR0.out x3_1 p453 q453; obtain rfl : ad450 = ad453 := (by injection e453); replace hx453_0 := (HB.out.cell (World.block_lt_of_cell? w _ hx453_0)).trans hx453_0; replace hx453_1 := (HB.out.cell (World.block_lt_of_cell? w _ hx453_1)).trans hx453_1; replace hx453_2 := (HB.out.cell (World.block_lt_of_cell? w _ hx453_2)).trans hx453_2; replace p453 := eq_true p453; replace q453 := eq_true q453))
          repeat (go_quiet (fail); try go_wp2_with (fail))
          go_ret
          exact ⟨by first | rfl | (simp [errW_none, errW_some] <;> rfl) | (simp only [← hji7]; first | rfl | (simp [errW_none, errW_some] <;> rfl)) | (simp [*, errW_none, errW_some] <;> rfl), by repeat (first | (with_reducible first | exact HB.out | apply below_alloc | apply pw_below_drewN | apply below_drew1) | exact HB.out)⟩
         ·
          rw [if_neg c10] at H
          have c10b0 : decide (((rd_T46 l0 x3_1).f0) < ((rd_T46 l0 (ji7)).f0)) = false := decide_eq_false c10
          clear c10
          by_cases c12 : ((rd_T46 l0 (ji7)).f0) = ((rd_T46 l0 x3_1).f0)
          ·
           rw [if_pos c12] at H
           have c12b0 : (((rd_T46 l0 (ji7)).f0) == ((rd_T46 l0 x3_1).f0)) = true := beq_iff_eq.mpr c12
           have c12b1 : (((rd_T46 l0 (ji7)).f0) != ((rd_T46 l0 x3_1).f0)) = false := bne_eq_false_iff_eq.mpr c12
           clear c12
           by_cases c13 : ((rd_T46 l0 (ji7)).f2) ≥ ((rd_T46 l0 x3_1).f1)
           ·
            rw [if_pos c13] at H
            have c13b0 : decide (((rd_T46 l0 x3_1).f1) ≤ ((rd_T46 l0 (ji7)).f2)) = true := decide_eq_true c13
            clear c13
            obtain rfl := Option.some.inj H
            have p450 : 0 ≤ (x3_1 : Int) := of_decide_eq_true (by first | (with_reducible assumption) | assumption)
            have q450 : x3_1 < (l0.length : Int) := of_decide_eq_true (by first | (with_reducible assumption) | assumption)
            obtain ⟨ad450, e450, hx450_0, hx450_1, hx450_2⟩ := at_T46 HR0.out x3_1 p450 q450
            cases e450
            replace hx450_0 := (HB.out.cell (World.block_lt_of_cell? w _ hx450_0)).trans hx450_0
            replace hx450_1 := (HB.out.cell (World.block_lt_of_cell? w _ hx450_1)).trans hx450_1
            replace hx450_2 := (HB.out.cell (World.block_lt_of_cell? w _ hx450_2)).trans hx450_2
            replace p450 := eq_true p450
            replace q450 := eq_true q450
            go_wp2_with (first | (go_at_call 54; (with_reducible refine (busbarref12_Right.calls ((rd_T46 l0 x3_1).f0) ((rd_T46 l0 x3_1).f1) ((rd_T46 l0 x3_1).f2) true _ A4.out).mono ?_); rintro e w14 ⟨rfl, hb⟩; replace HB := Aside0.mk (below_step (HB.out) hb); (try clear hb); have p452 : 0 ≤ ((ji7) : Int) := of_decide_eq_true (by first | (with_reducible assumption) | assumption); have q452 : (ji7) < (l0.length : Int) := of_decide_eq_true (by first | (with_reducible assumption) | assumption); obtain ⟨ad452, e452, hx452_0, hx452_1, hx452_2⟩ := at_T46 HR0.out (ji7) p452 q452; obtain rfl : ad450 = ad452 := (by injection e452); replace hx452_0 := (HB.out.cell (World.block_lt_of_cell? w _ hx452_0)).trans hx452_0; replace hx452_1 := (HB.out.cell (World.block_lt_of_cell? w _ hx452_1)).trans hx452_1; replace hx452_2 := (HB.out.cell (World.block_lt_of_cell? w _ hx452_2)).trans hx452_2; replace p452 := eq_true p452; replace q452 := eq_true q452; have p453 : 0 ≤ (x3_1 : Int) := of_decide_eq_true (by first | (with_reducible assumption) | assumption); have q453 : x3_1 < (l0.length : Int) := of_decide_eq_true (by first | (with_reducible assumption) | assumption); obtain ⟨ad453, e453, hx453_0, hx453_1, hx453_2⟩ := at_T46 HR0.out x3_1 p453 q453; obtain rfl : ad450 = ad453 := (by injection e453); replace hx453_0 := (HB.out.cell (World.block_lt_of_cell? w _ hx453_0)).trans hx453_0; replace hx453_1 := (HB.out.cell (World.block_lt_of_cell? w _ hx453_1)).trans hx453_1; replace hx453_2 := (HB.out.cell (World.block_lt_of_cell? w _ hx453_2)).trans hx453_2; replace p453 := eq_true p453; replace q453 := eq_true q453; have p454 : 0 ≤ ((ji7) : Int) := of_decide_eq_true (by first | (with_reducible assumption) | assumption); have q454 : (ji7) < (l0.length : Int) := of_decide_eq_true (by first | (with_reducible assumption) | assumption); obtain ⟨ad454, e454, hx454_0, hx454_1, hx454_2⟩ := at_T46 HR0.out (ji7) p454 q454; obtain rfl : ad450 = ad454 := (by injection e454); replace hx454_0 := (HB.out.cell (World.block_lt_of_cell? w _ hx454_0)).trans hx454_0; replace hx454_1 := (HB.out.cell (World.block_lt_of_cell? w _ hx454_1)).trans hx454_1; replace hx454_2 := (HB.out.cell (World.block_lt_of_cell? w _ hx454_2)).trans hx454_2; replace p454 := eq_true p454; replace q454 := eq_true q454; have p455 : 0 ≤ (x3_1 : Int) := of_decide_eq_true (by first | (with_reducible assumption) | assumption); have q455 : x3_1 < (l0.length : Int) := of_decide_eq_true (by first | (with_reducible assumption) | assumption); obtain ⟨ad455, e455, hx455_0, hx455_1, hx455_2⟩ := at_T46 HR0.out x3_1 p455 q455; obtain rfl : ad450 = ad455 := (by injection e455); replace hx455_0 := (HB.out.cell (World.block_lt_of_cell? w _ hx455_0)).trans hx455_0; replace hx455_1 := (HB.out.cell (World.block_lt_of_cell? w _ hx455_1)).trans hx455_1; replace hx455_2 := (HB.out.cell (World.block_lt_of_cell? w _ hx455_2)).trans hx455_2; replace p455 := eq_true p455; replace q455 := eq_true q455; have p456 : 0 ≤ ((ji7) : Int) := of_decide_eq_true (by first | (with_reducible assumption) | assumption); have q456 : (ji7) < (l0.length : Int) := of_decide_eq_true (by first | (with_reducible assumption) | assumption); obtain ⟨ad456, e456, hx456_0, hx456_1, hx456_2⟩ := at_T46 HR0.out (ji7) p456 q456; obtain rfl : ad450 = ad456 := (by injection e456); replace hx456_0 := (HB.out.cell (World.block_lt_of_cell? w _ hx456_0)).trans hx456_0; replace hx456_1 := (HB.out.cell (World.block_lt_of_cell? w _ hx456_1)).trans hx456_1; replace hx456_2 := (HB.out.cell (World.block_lt_of_cell? w _ hx456_2)).trans hx456_2; replace p456 := eq_true p456; replace q456 := eq_true q456; have p457 : 0 ≤ (x3_1 : Int) := of_decide_eq_true (by first | (with_reducible assumption) | assumption); have q457 : x3_1 < (l0.length : Int) := of_decide_eq_true (by first | (with_reducible assumption) | assumption); obtain ⟨ad457, e457, hx457_0, hx457_1, hx457_2⟩ := at_T46 HR0.out x3_1 p457 q457; obtain rfl : ad450 = ad457 := (by injection e457); replace hx457_0 := (HB.out.cell (World.block_lt_of_cell? w _ hx457_0)).trans hx457_0; replace hx457_1 := (HB.out.cell (World.block_lt_of_cell? w _ hx457_1)).trans hx457_1; replace hx457_2 := (HB.out.cell (World.block_lt_of_cell? w _ hx457_2)).trans hx457_2; replace p457 := eq_true p457; replace q457 := eq_true q457))
            repeat (go_quiet (fail); try go_wp2_with (fail))
            go_ret
            exact ⟨by first | rfl | (simp [errW_none, errW_some] <;> rfl) | (simp only [← hji7]; first | rfl | (simp [errW_none, errW_some] <;> rfl)) | (simp [*, errW_none, errW_some] <;> rfl), by repeat (first | (with_reducible first | exact HB.out | apply below_alloc | apply pw_below_drewN | apply below_drew1) | exact HB.out)⟩
           ·
            rw [if_neg c13] at H
            have c13b0 : decide (((rd_T46 l0 x3_1).f1) ≤ ((rd_T46 l0 (ji7)).f2)) = false := decide_eq_false c13
            clear c13
            have H' := Aside0.mk H
            clear H
            have p450 : 0 ≤ (x3_1 : Int) := of_decide_eq_true (by first | (with_reducible assumption) | assumption)
            have q450 : x3_1 < (l0.length : Int) := of_decide_eq_true (by first | (with_reducible assumption) | assumption)
            obtain ⟨ad450, e450, hx450_0, hx450_1, hx450_2⟩ := at_T46 HR0.out x3_1 p450 q450
            cases e450
            replace hx450_0 := (HB.out.cell (World.block_lt_of_cell? w _ hx450_0)).trans hx450_0
            replace hx450_1 := (HB.out.cell (World.block_lt_of_cell? w _ hx450_1)).trans hx450_1
            replace hx450_2 := (HB.out.cell (World.block_lt_of_cell? w _ hx450_2)).trans hx450_2
            replace p450 := eq_true p450
            replace q450 := eq_true q450
            go_wp2_with (first | (go_at_call 54; (with_reducible refine (busbarref12_Right.calls ((rd_T46 l0 x3_1).f0) ((rd_T46 l0 x3_1).f1) ((rd_T46 l0 x3_1).f2) true _ A4.out).mono ?_); rintro e w15 ⟨rfl, hb⟩; replace HB := Aside0.mk (below_step (HB.out) hb); (try clear hb); have p452 : 0 ≤ ((ji7) : Int) := of_decide_eq_true (by first | (with_reducible assumption) | assumption); have q452 : (ji7) < (l0.length : Int) := of_decide_eq_true (by first | (with_reducible assumption) | assumption); obtain ⟨ad452, e452, hx452_0, hx452_1, hx452_2⟩ := at_T46 HR0.out (ji7) p452 q452; obtain rfl : ad450 = ad452 := (by injection e452); replace hx452_0 := (HB.out.cell (World.block_lt_of_cell? w _ hx452_0)).trans hx452_0; replace hx452_1 := (HB.out.cell (World.block_lt_of_cell? w _ hx452_1)).trans hx452_1; replace hx452_2 := (HB.out.cell (World.block_lt_of_cell? w _ hx452_2)).trans hx452_2; replace p452 := eq_true p452; replace q452 := eq_true q452; have p453 : 0 ≤ (x3_1 : Int) := of_decide_eq_true (by first | (with_reducible assumption) | assumption); have q453 : x3_1 < (l0.length : Int) := of_decide_eq_true (by first | (with_reducible assumption) | assumption); obtain ⟨ad453, e453, hx453_0, hx453_1, hx453_2⟩ := at_T46 HR0.out x3_1 p453 q453; obtain rfl : ad450 = ad453 := (by injection e453); replace hx453_0 := (HB.out.cell (World.block_lt_of_cell? w _ hx453_0)).trans hx453_0; replace hx453_1 := (HB.out.cell (World.block_lt_of_cell? w _ hx453_1)).trans hx453_1; replace hx453_2 := (HB.out.cell (World.block_lt_of_cell? w _ hx453_2)).trans hx453_2; replace p453 := eq_true p453; replace q453 := eq_true q453; have p454 : 0 ≤ ((ji7) : Int) := of_decide_eq_true (by first | (with_reducible assumption) | assumption); have q454 : (ji7) < (l0.length : Int) := of_decide_eq_true (by first | (with_reducible assumption) | assumption); obtain ⟨ad454, e454, hx454_0, hx454_1, hx454_2⟩ := at_T46 HR0.out (ji7) p454 q454; obtain rfl : ad450 = ad454 := (by injection e454); replace hx454_0 := (HB.out.cell (World.block_lt_of_cell? w _ hx454_0)).trans hx454_0; replace hx454_1 := (HB.out.cell (World.block_lt_of_cell? w _ hx454_1)).trans hx454_1; replace hx454_2 := (HB.out.cell (World.block_lt_of_cell? w _ hx454_2)).trans hx454_2; replace p454 := eq_true p454; replace q454 := eq_true q454; have p455 : 0 ≤ (x3_1 : Int) := of_decide_eq_true (by first | (with_reducible assumption) | assumption); have q455 : x3_1 < (l0.length : Int) := of_decide_eq_true (by first | (with_reducible assumption) | assumption); obtain ⟨ad455, e455, hx455_0, hx455_1, hx455_2⟩ := at_T46 HR0.out x3_1 p455 q455; obtain rfl : ad450 = ad455 := (by injection e455); replace hx455_0 := (HB.out.cell (World.block_lt_of_cell? w _ hx455_0)).trans hx455_0; replace hx455_1 := (HB.out.cell (World.block_lt_of_cell? w _ hx455_1)).trans hx455_1; replace hx455_2 := (HB.out.cell (World.block_lt_of_cell? w _ hx455_2)).trans hx455_2; replace p455 := eq_true p455; replace q455 := eq_true q455; have p456 : 0 ≤ ((ji7) : Int) := of_decide_eq_true (by first | (with_reducible assumption) | assumption); have q456 : (ji7) < (l0.length : Int) := of_decide_eq_true (by first | (with_reducible assumption) | assumption); obtain ⟨ad456, e456, hx456_0, hx456_1, hx456_2⟩ := at_T46 HR0.out (ji7) p456 q456; obtain rfl : ad450 = ad456 := (by injection e456); replace hx456_0 := (HB.out.cell (World.block_lt_of_cell? w _ hx456_0)).trans hx456_0; replace hx456_1 := (HB.out.cell (World.block_lt_of_cell? w _ hx456_1)).trans hx456_1; replace hx456_2 := (HB.out.cell (World.block_lt_of_cell? w _ hx456_2)).trans hx456_2; replace p456 := eq_true p456; replace q456 := eq_true q456; have p457 : 0 ≤ (x3_1 : Int) := of_decide_eq_true (by first | (with_reducible assumption) | assumption); have q457 : x3_1 < (l0.length : Int) := of_decide_eq_true (by first | (with_reducible assumption) | assumption); obtain ⟨ad457, e457, hx457_0, hx457_1, hx457_2⟩ := at_T46 HR0.out x3_1 p457 q457; obtain rfl : ad450 = ad457 := (by injection e457); replace hx457_0 := (HB.out.cell (World.block_lt_of_cell? w _ hx457_0)).trans hx457_0; replace hx457_1 := (HB.out.cell (World.block_lt_of_cell? w _ hx457_1)).trans hx457_1; replace hx457_2 := (HB.out.cell (World.block_lt_of_cell? w _ hx457_2)).trans hx457_2; replace p457 := eq_true p457; replace q457 := eq_true q457))
            repeat (go_quiet (fail); try go_wp2_with (fail))
            go_roundg k1
            case measure => have := HK1.out; omega
            case rel => exact ⟨(wrap64 (x3_1 + 1)), (by first | rfl | (simp; done) | (simp [*]; done)), H', ⟨by have := HK1.out; omega⟩, ⟨by repeat (first | (with_reducible first | exact HB.out | apply below_alloc | apply pw_below_drewN | apply below_drew1) | exact HB.out)⟩⟩
          ·
           rw [if_neg c12] at H
           have c12b0 : (((rd_T46 l0 (ji7)).f0) == ((rd_T46 l0 x3_1).f0)) = false := beq_eq_false_iff_ne.mpr c12
           have c12b1 : (((rd_T46 l0 (ji7)).f0) != ((rd_T46 l0 x3_1).f0)) = true := bne_iff_ne.mpr c12
           have H' := Aside0.mk H
           clear H
           have p450 : 0 ≤ (x3_1 : Int) := of_decide_eq_true (by first | (with_reducible assumption) | assumption)
           have q450 : x3_1 < (l0.length : Int) := of_decide_eq_true (by first | (with_reducible assumption) | assumption)
           obtain ⟨ad450, e450, hx450_0, hx450_1, hx450_2⟩ := at_T46 HR0.out x3_1 p450 q450
           cases e450
           replace hx450_0 := (HB.out.cell (World.block_lt_of_cell? w _ hx450_0)).trans hx450_0
           replace hx450_1 := (HB.out.cell (World.block_lt_of_cell? w _ hx450_1)).trans hx450_1
           replace hx450_2 := (HB.out.cell (World.block_lt_of_cell? w _ hx450_2)).trans hx450_2
           replace p450 := eq_true p450
           replace q450 := eq_true q450
           go_wp2_with (first | (go_at_call 54; (with_reducible refine (busbarref12_Right.calls ((rd_T46 l0 x3_1).f0) ((rd_T46 l0 x3_1).f1) ((rd_T46 l0 x3_1).f2) true _ A4.out).mono ?_); rintro e w16 ⟨rfl, hb⟩; replace HB := Aside0.mk (below_step (HB.out) hb); (try clear hb); have p452 : 0 ≤ ((ji7) : Int) := of_decide_eq_true (by first | (with_reducible assumption) | assumption); have q452 : (ji7) < (l0.length : Int) := of_decide_eq_true (by first | (with_reducible assumption) | assumption); obtain ⟨ad452, e452, hx452_0, hx452_1, hx452_2⟩ := at_T46 HR0.out (ji7) p452 q452; obtain rfl : ad450 = ad452 := (by injection e452); replace hx452_0 := (HB.out.cell (World.block_lt_of_cell? w _ hx452_0)).trans hx452_0; replace hx452_1 := (HB.out.cell (World.block_lt_of_cell? w _ hx452_1)).trans hx452_1; replace hx452_2 := (HB.out.cell (World.block_lt_of_cell? w _ hx452_2)).trans hx452_2; replace p452 := eq_true p452; replace q452 := eq_true q452; have p453 : 0 ≤ (x3_1 : Int) := of_decide_eq_true (by first | (with_reducible assumption) | assumption); have q453 : x3_1 < (l0.length : Int) := of_decide_eq_true (by first | (with_reducible assumption) | assumption); obtain ⟨ad453, e453, hx453_0, hx453_1, hx453_2⟩ := at_T46 HR0.out x3_1 p453 q453; obtain rfl : ad450 = ad453 := (by injection e453); replace hx453_0 := (HB.out.cell (World.block_lt_of_cell? w _ hx453_0)).trans hx453_0; replace hx453_1 := (HB.out.cell (World.block_lt_of_cell? w _ hx453_1)).trans hx453_1; replace hx453_2 := (HB.out.cell (World.block_lt_of_cell? w _ hx453_2)).trans hx453_2; replace p453 := eq_true p453; replace q453 := eq_true q453; have p454 : 0 ≤ ((ji7) : Int) := of_decide_eq_true (by first | (with_reducible assumption) | assumption); have q454 : (ji7) < (l0.length : Int) := of_decide_eq_true (by first | (with_reducible assumption) | assumption); obtain ⟨ad454, e454, hx454_0, hx454_1, hx454_2⟩ := at_T46 HR0.out (ji7) p454 q454; obtain rfl : ad450 = ad454 := (by injection e454); replace hx454_0 := (HB.out.cell (World.block_lt_of_cell? w _ hx454_0)).trans hx454_0; replace hx454_1 := (HB.out.cell (World.block_lt_of_cell? w _ hx454_1)).trans hx454_1; replace hx454_2 := (HB.out.cell (World.block_lt_of_cell? w _ hx454_2)).trans hx454_2; replace p454 := eq_true p454; replace q454 := eq_true q454; have p455 : 0 ≤ (x3_1 : Int) := of_decide_eq_true (by first | (with_reducible assumption) | assumption); have q455 : x3_1 < (l0.length : Int) := of_decide_eq_true (by first | (with_reducible assumption) | assumption); obtain ⟨ad455, e455, hx455_0, hx455_1, hx455_2⟩ := at_T46 HR0.out x3_1 p455 q455; obtain rfl : ad450 = ad455 := (by injection e455); replace hx455_0 := (HB.out.cell (World.block_lt_of_cell? w _ hx455_0)).trans hx455_0; replace hx455_1 := (HB.out.cell (World.block_lt_of_cell? w _ hx455_1)).trans hx455_1; replace hx455_2 := (HB.out.cell (World.block_lt_of_cell? w _ hx455_2)).trans hx455_2; replace p455 := eq_true p455; replace q455 := eq_true q455))
           repeat (go_quiet (fail); try go_wp2_with (fail))
           go_roundg k1
           case measure => have := HK1.out; omega
           case rel => exact ⟨(wrap64 (x3_1 + 1)), (by first | rfl | (simp; done) | (simp [*]; done)), H', ⟨by have := HK1.out; omega⟩, ⟨by repeat (first | (with_reducible first | exact HB.out | apply below_alloc | apply pw_below_drewN | apply below_drew1) | exact HB.out)⟩⟩
        ·
         rw [if_neg c9] at H
         exact absurd H (by simp)
       ·
        rw [if_neg c8] at H
        exact absurd H (by simp)
      ·
       rw [if_neg c6] at H
       have c6b0 : decide (0 < x3_1) = false := decide_eq_false c6
       clear c6
       have H' := Aside0.mk H
       clear H
       have p450 : 0 ≤ (x3_1 : Int) := of_decide_eq_true (by first | (with_reducible assumption) | assumption)
       have q450 : x3_1 < (l0.length : Int) := of_decide_eq_true (by first | (with_reducible assumption) | assumption)
       obtain ⟨ad450, e450, hx450_0, hx450_1, hx450_2⟩ := at_T46 HR0.out x3_1 p450 q450
       cases e450
       replace hx450_0 := (HB.out.cell (World.block_lt_of_cell? w _ hx450_0)).trans hx450_0
       replace hx450_1 := (HB.out.cell (World.block_lt_of_cell? w _ hx450_1)).trans hx450_1
       replace hx450_2 := (HB.out.cell (World.block_lt_of_cell? w _ hx450_2)).trans hx450_2
       replace p450 := eq_true p450
       replace q450 := eq_true q450
       go_wp2_with (first | (go_at_call 54; (with_reducible refine (busbarref12_Right.calls ((rd_T46 l0 x3_1).f0) ((rd_T46 l0 x3_1).f1) ((rd_T46 l0 x3_1).f2) true _ A4.out).mono ?_); rintro e w17 ⟨rfl, hb⟩; replace HB := Aside0.mk (below_step (HB.out) hb); (try clear hb); (try clear hi)))
       repeat (go_quiet (fail); try go_wp2_with (fail))
       go_roundg k1
       case measure => have := HK1.out; omega
       case rel => exact ⟨(wrap64 (x3_1 + 1)), (by first | rfl | (simp; done) | (simp [*]; done)), H', ⟨by have := HK1.out; omega⟩, ⟨by repeat (first | (with_reducible first | exact HB.out | apply below_alloc | apply pw_below_drewN | apply below_drew1) | exact HB.out)⟩⟩
     ·
      replace c5 := Bool.eq_false_iff.mpr c5
      subst c5
      have H1 : (some false) = some r := by rw [if_neg (show ¬ (false = true) by decide)] at H; exact H
      clear H
      have H := H1
      clear H1
      obtain rfl := Option.some.inj H
      have p450 : 0 ≤ (x3_1 : Int) := of_decide_eq_true (by first | (with_reducible assumption) | assumption)
      have q450 : x3_1 < (l0.length : Int) := of_decide_eq_true (by first | (with_reducible assumption) | assumption)
      obtain ⟨ad450, e450, hx450_0, hx450_1, hx450_2⟩ := at_T46 HR0.out x3_1 p450 q450
      cases e450
      replace hx450_0 := (HB.out.cell (World.block_lt_of_cell? w _ hx450_0)).trans hx450_0
      replace hx450_1 := (HB.out.cell (World.block_lt_of_cell? w _ hx450_1)).trans hx450_1
      replace hx450_2 := (HB.out.cell (World.block_lt_of_cell? w _ hx450_2)).trans hx450_2
      replace p450 := eq_true p450
      replace q450 := eq_true q450
      go_wp2_with (first | (go_at_call 54; (with_reducible refine (busbarref12_Right.calls ((rd_T46 l0 x3_1).f0) ((rd_T46 l0 x3_1).f1) ((rd_T46 l0 x3_1).f2) false _ A4.out).mono ?_); rintro e w18 ⟨rfl, hb⟩; replace HB := Aside0.mk (below_step (HB.out) hb); (try clear hb); (try clear hi)))
      repeat (go_quiet (fail); try go_wp2_with (fail))
      go_ret
      exact ⟨by first | rfl | (simp [errW_none, errW_some] <;> rfl) | (simp [*, errW_none, errW_some] <;> rfl), HB.out⟩
    ·
     rw [if_neg c3] at H
     exact absurd H (by simp)
   ·
    rw [if_neg c2] at H
    have c2b0 : decide (x3_1 < (l0.length : Int)) = false := decide_eq_false c2
    clear c2
    obtain rfl := Option.some.inj H
    go_wp2
    repeat (go_quiet (fail); try go_wp2)
    go_ret
    exact ⟨by first | rfl | (simp [errW_none, errW_some] <;> rfl) | (simp [*, errW_none, errW_some] <;> rfl), HB.out⟩
end Go.Proofs.Ytjlbgopgeepiaaa.PConf
namespace Go.Proofs.Ytjlbgopgeepiaaa.PConf
open Go.RowKit Go.Proofs.YtjlbgopgeepiaaaW.PrintWords Go.Proofs.YtjlbgopgeepiaaaW.PrintLast Go.Proofs.YtjlbgopgeepiaaaW.PrintMore
attribute [local go_sem] max2_int min2_int max_two min_two max_three min_three max_four min_four plus_setCell_drewN plus_cell_same   -- for this text's walks alone
set_option linter.unusedVariables false
set_option linter.unusedSimpArgs false
def busbarref12_Meets.l0 : Nat → List (S46) → Int → Int → Int → Int → Option (Bool)
 | 0, _, _, _, _, _ => none
 | k + 1, x0, x5, x459000, x459001, x459002 => if x5 < (x0.length : Int) then (if 0 ≤ x5 then (if ((rd_T46 x0 x5).f0) = x459000 then (if ((rd_T46 x0 x5).f1) < x459002 then (if x459001 < ((rd_T46 x0 x5).f2) then (some true) else (busbarref12_Meets.l0 k x0 (wrap64 (x5 + 1)) x459000 x459001 x459002)) else (busbarref12_Meets.l0 k x0 (wrap64 (x5 + 1)) x459000 x459001 x459002)) else (busbarref12_Meets.l0 k x0 (wrap64 (x5 + 1)) x459000 x459001 x459002)) else (none)) else (some false)
def busbarref12_Meets.f (k : Nat) (l0 : List (S46)) (a1_0 : Int) (a1_1 : Int) (a1_2 : Int) : Option (Bool) := busbarref12_Meets.l0 k l0 0 a1_0 a1_1 a1_2
theorem busbarref12_Meets.mono_l : ∀ k, (∀ y0 y1 y2 y3 y4, LeO (busbarref12_Meets.l0 k y0 y1 y2 y3 y4) (busbarref12_Meets.l0 (k + 1) y0 y1 y2 y3 y4))
 | 0 => fun _ _ _ _ _ r h => by simp [busbarref12_Meets.l0] at h
 | k + 1 => by
  have ih0 := busbarref12_Meets.mono_l k
  ·
   intro y0 y1 y2 y3 y4
   unfold busbarref12_Meets.l0
   repeat' first
   | (with_reducible exact ih0 _ _ _ _ _)
   | (with_reducible exact LeO.refl _)
   | (with_reducible exact LeO.none _)
   | (with_reducible refine LeO.ite ?_ ?_)
   | (with_reducible refine LeO.bind ?_ (fun _ => ?_))
   | exact ih0 _ _ _ _ _
   | exact LeO.none _
   | refine LeO.ite ?_ ?_
   | refine LeO.bind ?_ (fun _ => ?_)
theorem busbarref12_Meets.mono : ∀ a0 a1 a2 a3 k, LeO (busbarref12_Meets.f k a0 a1 a2 a3) (busbarref12_Meets.f (k + 1) a0 a1 a2 a3) := by
 intro a0 a1 a2 a3 k
 have ih0 := busbarref12_Meets.mono_l k
 unfold busbarref12_Meets.f
 repeat' first
   | (with_reducible exact ih0 _ _ _ _ _)
   | (with_reducible exact LeO.refl _)
   | (with_reducible exact LeO.none _)
   | (with_reducible refine LeO.ite ?_ ?_)
   | (with_reducible refine LeO.bind ?_ (fun _ => ?_))
   | exact ih0 _ _ _ _ _
   | exact LeO.none _
   | refine LeO.ite ?_ ?_
   | refine LeO.bind ?_ (fun _ => ?_)
set_option maxHeartbeats 8000000 in
set_option maxRecDepth 100000 in
theorem busbarref12_Meets.calls (k : Nat) (A0 : Option Addr) (c0 : Nat) (l0 : List (S46)) (a1_0 : Int) (a1_1 : Int) (a1_2 : Int) (r : Bool) (w : World) (hr0 : Kd.C k46 w A0 l0.length l0) (hc0 : l0.length ≤ c0) (h : busbarref12_Meets.f k l0 a1_0 a1_1 a1_2 = some r) :
  Calls Try.prog 44 #[.slice A0 l0.length c0, .agg #[.int .i64 a1_0, .int .i64 a1_1, .int .i64 a1_2]] w fun e w' => e = .returned (.bool r) ∧ Below w.heap.size w w' := by
 have hu46 := Try.underlying46
 have HR0 := Aside0.mk hr0
 have HC0 := Aside0.mk hc0
 clear hr0 hc0
 have HB := Aside0.mk (Below.refl w.heap.size w)
 have H : (busbarref12_Meets.l0 k l0 0 a1_0 a1_1 a1_2) = some r := h
 clear h
 have H' := Aside0.mk H
 clear H
 go_enter Try.func44, Try.ntmps44
 go_wp2_with (first | ((with_reducible refine gate_dst (N := 3) rfl ?_); refine box_event ?hg (N := 3) ?hd (cs := #[.int .i64 a1_0, .int .i64 a1_1, .int .i64 a1_2]) (t := 46) ?hr ?_; (case hd => rfl); (case hg => rfl); (case hr => first | (go_simp; done) | (go_simp; rfl)); intro gb458 hg w3 hbox hb; have BK458 := Aside0.mk (hbox); have GW458 := Aside0.mk ((by rw [hg]; exact (below_size (HB.out)) : w.heap.size ≤ gb458)); have GE458 := Aside0.mk ((by rw [hg]; exact (below_size (HB.out)) : w.heap.size ≤ gb458)); replace HB := Aside0.mk (below_step (HB.out) hb); clear hb hbox hg))
 repeat (go_quiet (fail); try go_wp2_with (fail))
 go_loopg [5] k (fun kq v5 w' => ∃ (x5_1 : Int), v5 = .int .i64 x5_1 ∧ Aside0 (busbarref12_Meets.l0 kq l0 x5_1 a1_0 a1_1 a1_2 = some r) ∧ Aside0 (kq ≤ k) ∧ Aside0 (w'.heap[gb458]? = some (.cells #[.int .i64 a1_0, .int .i64 a1_1, .int .i64 a1_2] 46 (0, 0))) ∧ Aside0 (Below w.heap.size w w'))
 case atStart => exact ⟨(0), (by first | rfl | (simp; done) | (simp [*]; done)), H', ⟨Nat.le_refl _⟩, ⟨BK458.out⟩, ⟨HB.out⟩⟩
 case round =>
  clear H'
  obtain ⟨x5_1, rfl, HA, HK1, BK458, HB⟩ := hrel
  cases gk with
  | zero => exact absurd HA.out (by simp [busbarref12_Meets.l0])
  | succ k1 =>
   have H := HA.out
   clear HA
   simp only [busbarref12_Meets.l0] at H
   by_cases c4 : x5_1 < (l0.length : Int)
   ·
    rw [if_pos c4] at H
    have c4b0 : decide (x5_1 < (l0.length : Int)) = true := decide_eq_true c4
    clear c4
    by_cases c5 : 0 ≤ x5_1
    ·
     rw [if_pos c5] at H
     have c5b0 : decide (0 ≤ x5_1) = true := decide_eq_true c5
     clear c5
     by_cases c6 : ((rd_T46 l0 x5_1).f0) = a1_0
     ·
      rw [if_pos c6] at H
      have c6b0 : (((rd_T46 l0 x5_1).f0) == a1_0) = true := beq_iff_eq.mpr c6
      have c6b1 : (((rd_T46 l0 x5_1).f0) != a1_0) = false := bne_eq_false_iff_eq.mpr c6
      clear c6
      by_cases c7 : ((rd_T46 l0 x5_1).f1) < a1_2
      ·
       rw [if_pos c7] at H
       have c7b0 : decide (((rd_T46 l0 x5_1).f1) < a1_2) = true := decide_eq_true c7
       clear c7
       by_cases c8 : a1_1 < ((rd_T46 l0 x5_1).f2)
       ·
        rw [if_pos c8] at H
        have c8b0 : decide (a1_1 < ((rd_T46 l0 x5_1).f2)) = true := decide_eq_true c8
        clear c8
        obtain rfl := Option.some.inj H
        have p459 : 0 ≤ (x5_1 : Int) := of_decide_eq_true (by first | (with_reducible assumption) | assumption)
        have q459 : x5_1 < (l0.length : Int) := of_decide_eq_true (by first | (with_reducible assumption) | assumption)
        obtain ⟨ad459, e459, hx459_0, hx459_1, hx459_2⟩ := at_T46 HR0.out x5_1 p459 q459
        cases e459
        replace hx459_0 := (HB.out.cell (World.block_lt_of_cell? w _ hx459_0)).trans hx459_0
        replace hx459_1 := (HB.out.cell (World.block_lt_of_cell? w _ hx459_1)).trans hx459_1
        replace hx459_2 := (HB.out.cell (World.block_lt_of_cell? w _ hx459_2)).trans hx459_2
        replace p459 := eq_true p459
        replace q459 := eq_true q459
        obtain ⟨hcz9_0, hcz9_1, hcz9_2⟩ := blkc3 BK458.out
        obtain ⟨hfz9_0, hfz9_1, hfz9_2⟩ := blkf3 BK458.out
        have p460 : 0 ≤ (x5_1 : Int) := of_decide_eq_true (by first | (with_reducible assumption) | assumption)
        have q460 : x5_1 < (l0.length : Int) := of_decide_eq_true (by first | (with_reducible assumption) | assumption)
        obtain ⟨ad460, e460, hx460_0, hx460_1, hx460_2⟩ := at_T46 HR0.out x5_1 p460 q460
        obtain rfl : ad459 = ad460 := (by injection e460)
        replace hx460_0 := (HB.out.cell (World.block_lt_of_cell? w _ hx460_0)).trans hx460_0
        replace hx460_1 := (HB.out.cell (World.block_lt_of_cell? w _ hx460_1)).trans hx460_1
        replace hx460_2 := (HB.out.cell (World.block_lt_of_cell? w _ hx460_2)).trans hx460_2
        replace p460 := eq_true p460
        replace q460 := eq_true q460
        have p461 : 0 ≤ (x5_1 : Int) := of_decide_eq_true (by first | (with_reducible assumption) | assumption)
        have q461 : x5_1 < (l0.length : Int) := of_decide_eq_true (by first | (with_reducible assumption) | assumption)
        obtain ⟨ad461, e461, hx461_0, hx461_1, hx461_2⟩ := at_T46 HR0.out x5_1 p461 q461
        obtain rfl : ad459 = ad461 := (by injection e461)
        replace hx461_0 := (HB.out.cell (World.block_lt_of_cell? w _ hx461_0)).trans hx461_0
        replace hx461_1 := (HB.out.cell (World.block_lt_of_cell? w _ hx461_1)).trans hx461_1
        replace hx461_2 := (HB.out.cell (World.block_lt_of_cell? w _ hx461_2)).trans hx461_2
        replace p461 := eq_true p461
        replace q461 := eq_true q461
        go_wp2
        repeat (go_quiet (fail); try go_wp2)
        go_ret
        exact ⟨by first | rfl | (simp [errW_none, errW_some] <;> rfl) | (simp [*, errW_none, errW_some] <;> rfl), by repeat (first | (with_reducible first | exact HB.out | apply below_alloc | apply pw_below_drewN | apply below_drew1 | refine below_set ?_ GE458.out) | exact HB.out)⟩
       ·
        rw [if_neg c8] at H
        have c8b0 : decide (a1_1 < ((rd_T46 l0 x5_1).f2)) = false := decide_eq_false c8
        clear c8
        have H' := Aside0.mk H
        clear H
        have p459 : 0 ≤ (x5_1 : Int) := of_decide_eq_true (by first | (with_reducible assumption) | assumption)
        have q459 : x5_1 < (l0.length : Int) := of_decide_eq_true (by first | (with_reducible assumption) | assumption)
        obtain ⟨ad459, e459, hx459_0, hx459_1, hx459_2⟩ := at_T46 HR0.out x5_1 p459 q459
        cases e459
        replace hx459_0 := (HB.out.cell (World.block_lt_of_cell? w _ hx459_0)).trans hx459_0
        replace hx459_1 := (HB.out.cell (World.block_lt_of_cell? w _ hx459_1)).trans hx459_1
        replace hx459_2 := (HB.out.cell (World.block_lt_of_cell? w _ hx459_2)).trans hx459_2
        replace p459 := eq_true p459
        replace q459 := eq_true q459
        obtain ⟨hcz10_0, hcz10_1, hcz10_2⟩ := blkc3 BK458.out
        obtain ⟨hfz10_0, hfz10_1, hfz10_2⟩ := blkf3 BK458.out
        have p460 : 0 ≤ (x5_1 : Int) := of_decide_eq_true (by first | (with_reducible assumption) | assumption)
        have q460 : x5_1 < (l0.length : Int) := of_decide_eq_true (by first | (with_reducible assumption) | assumption)
        obtain ⟨ad460, e460, hx460_0, hx460_1, hx460_2⟩ := at_T46 HR0.out x5_1 p460 q460
        obtain rfl : ad459 = ad460 := (by injection e460)
        replace hx460_0 := (HB.out.cell (World.block_lt_of_cell? w _ hx460_0)).trans hx460_0
        replace hx460_1 := (HB.out.cell (World.block_lt_of_cell? w _ hx460_1)).trans hx460_1
        replace hx460_2 := (HB.out.cell (World.block_lt_of_cell? w _ hx460_2)).trans hx460_2
        replace p460 := eq_true p460
        replace q460 := eq_true q460
        have p461 : 0 ≤ (x5_1 : Int) := of_decide_eq_true (by first | (with_reducible assumption) | assumption)
        have q461 : x5_1 < (l0.length : Int) := of_decide_eq_true (by first | (with_reducible assumption) | assumption)
        obtain ⟨ad461, e461, hx461_0, hx461_1, hx461_2⟩ := at_T46 HR0.out x5_1 p461 q461
        obtain rfl : ad459 = ad461 := (by injection e461)
        replace hx461_0 := (HB.out.cell (World.block_lt_of_cell? w _ hx461_0)).trans hx461_0
        replace hx461_1 := (HB.out.cell (World.block_lt_of_cell? w _ hx461_1)).trans hx461_1
        replace hx461_2 := (HB.out.cell (World.block_lt_of_cell? w _ hx461_2)).trans hx461_2
        replace p461 := eq_true p461
        replace q461 := eq_true q461
        go_wp2
        repeat (go_quiet (fail); try go_wp2)
        go_roundg k1
        case measure => have := HK1.out; omega
        case rel => exact ⟨(wrap64 (x5_1 + 1)), (by first | rfl | (simp; done) | (simp [*]; done)), H', ⟨by have := HK1.out; omega⟩, ⟨by (with_reducible repeat (first | refine blk_drewN ?_ _ | refine blk_drew ?_ | refine blk_alloc ?_ _)); exact BK458.out⟩, ⟨by repeat (first | (with_reducible first | exact HB.out | apply below_alloc | apply pw_below_drewN | apply below_drew1 | refine below_set ?_ GE458.out) | exact HB.out)⟩⟩
      ·
       rw [if_neg c7] at H
       have c7b0 : decide (((rd_T46 l0 x5_1).f1) < a1_2) = false := decide_eq_false c7
       clear c7
       have H' := Aside0.mk H
       clear H
       have p459 : 0 ≤ (x5_1 : Int) := of_decide_eq_true (by first | (with_reducible assumption) | assumption)
       have q459 : x5_1 < (l0.length : Int) := of_decide_eq_true (by first | (with_reducible assumption) | assumption)
       obtain ⟨ad459, e459, hx459_0, hx459_1, hx459_2⟩ := at_T46 HR0.out x5_1 p459 q459
       cases e459
       replace hx459_0 := (HB.out.cell (World.block_lt_of_cell? w _ hx459_0)).trans hx459_0
       replace hx459_1 := (HB.out.cell (World.block_lt_of_cell? w _ hx459_1)).trans hx459_1
       replace hx459_2 := (HB.out.cell (World.block_lt_of_cell? w _ hx459_2)).trans hx459_2
       replace p459 := eq_true p459
       replace q459 := eq_true q459
       obtain ⟨hcz11_0, hcz11_1, hcz11_2⟩ := blkc3 BK458.out
       obtain ⟨hfz11_0, hfz11_1, hfz11_2⟩ := blkf3 BK458.out
       have p460 : 0 ≤ (x5_1 : Int) := of_decide_eq_true (by first | (with_reducible assumption) | assumption)
       have q460 : x5_1 < (l0.length : Int) := of_decide_eq_true (by first | (with_reducible assumption) | assumption)
       obtain ⟨ad460, e460, hx460_0, hx460_1, hx460_2⟩ := at_T46 HR0.out x5_1 p460 q460
       obtain rfl : ad459 = ad460 := (by injection e460)
       replace hx460_0 := (HB.out.cell (World.block_lt_of_cell? w _ hx460_0)).trans hx460_0
       replace hx460_1 := (HB.out.cell (World.block_lt_of_cell? w _ hx460_1)).trans hx460_1
       replace hx460_2 := (HB.out.cell (World.block_lt_of_cell? w _ hx460_2)).trans hx460_2
       replace p460 := eq_true p460
       replace q460 := eq_true q460
       go_wp2
       repeat (go_quiet (fail); try go_wp2)
       go_roundg k1
       case measure => have := HK1.out; omega
       case rel => exact ⟨(wrap64 (x5_1 + 1)), (by first | rfl | (simp; done) | (simp [*]; done)), H', ⟨by have := HK1.out; omega⟩, ⟨by (with_reducible repeat (first | refine blk_drewN ?_ _ | refine blk_drew ?_ | refine blk_alloc ?_ _)); exact BK458.out⟩, ⟨by repeat (first | (with_reducible first | exact HB.out | apply below_alloc | apply pw_below_drewN | apply below_drew1 | refine below_set ?_ GE458.out) | exact HB.out)⟩⟩
     ·
      rw [if_neg c6] at H
      have c6b0 : (((rd_T46 l0 x5_1).f0) == a1_0) = false := beq_eq_false_iff_ne.mpr c6
      have c6b1 : (((rd_T46 l0 x5_1).f0) != a1_0) = true := bne_iff_ne.mpr c6
      have H' := Aside0.mk H
      clear H
      have p459 : 0 ≤ (x5_1 : Int) := of_decide_eq_true (by first | (with_reducible assumption) | assumption)
      have q459 : x5_1 < (l0.length : Int) := of_decide_eq_true (by first | (with_reducible assumption) | assumption)
      obtain ⟨ad459, e459, hx459_0, hx459_1, hx459_2⟩ := at_T46 HR0.out x5_1 p459 q459
      cases e459
      replace hx459_0 := (HB.out.cell (World.block_lt_of_cell? w _ hx459_0)).trans hx459_0
      replace hx459_1 := (HB.out.cell (World.block_lt_of_cell? w _ hx459_1)).trans hx459_1
      replace hx459_2 := (HB.out.cell (World.block_lt_of_cell? w _ hx459_2)).trans hx459_2
      replace p459 := eq_true p459
      replace q459 := eq_true q459
      obtain ⟨hcz12_0, hcz12_1, hcz12_2⟩ := blkc3 BK458.out
      obtain ⟨hfz12_0, hfz12_1, hfz12_2⟩ := blkf3 BK458.out
      go_wp2
      repeat (go_quiet (fail); try go_wp2)
      go_roundg k1
      case measure => have := HK1.out; omega
      case rel => exact ⟨(wrap64 (x5_1 + 1)), (by first | rfl | (simp; done) | (simp [*]; done)), H', ⟨by have := HK1.out; omega⟩, ⟨by (with_reducible repeat (first | refine blk_drewN ?_ _ | refine blk_drew ?_ | refine blk_alloc ?_ _)); exact BK458.out⟩, ⟨by repeat (first | (with_reducible first | exact HB.out | apply below_alloc | apply pw_below_drewN | apply below_drew1 | refine below_set ?_ GE458.out) | exact HB.out)⟩⟩
    ·
     rw [if_neg c5] at H
     exact absurd H (by simp)
   ·
    rw [if_neg c4] at H
    have c4b0 : decide (x5_1 < (l0.length : Int)) = false := decide_eq_false c4
    clear c4
    obtain rfl := Option.some.inj H
    go_wp2
    repeat (go_quiet (fail); try go_wp2)
    go_ret
    exact ⟨by first | rfl | (simp [errW_none, errW_some] <;> rfl) | (simp [*, errW_none, errW_some] <;> rfl), HB.out⟩
end Go.Proofs.Ytjlbgopgeepiaaa.PConf
namespace Go.Proofs.Ytjlbgopgeepiaaa.PConf
open Go.RowKit Go.Proofs.YtjlbgopgeepiaaaW.PrintWords Go.Proofs.YtjlbgopgeepiaaaW.PrintLast Go.Proofs.YtjlbgopgeepiaaaW.PrintMore
attribute [local go_sem] max2_int min2_int max_two min_two max_three min_three max_four min_four plus_setCell_drewN plus_cell_same   -- for this text's walks alone
set_option linter.unusedVariables false
set_option linter.unusedSimpArgs false
def busbarref12_control.f (a0 : Int) : Option (Int × Int × Int) := some (2, a0, wrap64 (a0 + 8))
set_option maxHeartbeats 8000000 in
set_option maxRecDepth 100000 in
theorem busbarref12_control.calls (a0 : Int) (r1 : Int) (r2 : Int) (r3 : Int) (w : World) (h : busbarref12_control.f a0 = some (r1, r2, r3)) :
  Calls Try.prog 45 #[.int .i64 a0] w fun e w' => e = .returned (.agg #[.int .i64 r1, .int .i64 r2, .int .i64 r3]) ∧ Below w.heap.size w w' := by
 have hu46 := Try.underlying46
 have HB := Aside0.mk (Below.refl w.heap.size w)
 have H : (some (2, a0, wrap64 (a0 + 8))) = some (r1, r2, r3) := h
 clear h
 simp only [Option.some.injEq, Prod.mk.injEq] at H
 obtain ⟨rfl, rfl, rfl⟩ := H
 go_enter Try.func45, Try.ntmps45
 go_wp2_with (first | ((with_reducible refine gate_dst (N := 2) rfl ?_); refine box_event ?hg (N := 2) ?hd (cs := #[.int .i64 0, .int .i64 0, .int .i64 0]) (t := 46) ?hr ?_; (case hd => rfl); (case hg => rfl); (case hr => first | (go_simp; done) | (go_simp; rfl)); intro gb462 hg w2 hbox hb; have BK462 := Aside0.mk (hbox); have GW462 := Aside0.mk ((by rw [hg]; exact (below_size (HB.out)) : w.heap.size ≤ gb462)); have GE462 := Aside0.mk ((by rw [hg]; exact (below_size (HB.out)) : w.heap.size ≤ gb462)); replace HB := Aside0.mk (below_step (HB.out) hb); clear hb hbox hg; obtain ⟨hcz3_0, hcz3_1, hcz3_2⟩ := blkc3 BK462.out; obtain ⟨hfz3_0, hfz3_1, hfz3_2⟩ := blkf3 BK462.out))
 refine bodyPost_ret (results_cell_row rfl _ _ gb462 46 #[.int .i64 2, .int .i64 a0, .int .i64 (wrap64 (a0 + 8))] (0, 0) _ rfl (by (with_reducible repeat (first | refine blk_drewN ?_ _ | refine blk_drew ?_ | refine blk_alloc ?_ _)); refine blk_put (cs := #[.int .i64 2, .int .i64 a0, .int .i64 0]) ?_ 2 _ rfl; (with_reducible repeat (first | refine blk_drewN ?_ _ | refine blk_drew ?_ | refine blk_alloc ?_ _)); refine blk_put (cs := #[.int .i64 2, .int .i64 0, .int .i64 0]) ?_ 1 _ rfl; (with_reducible repeat (first | refine blk_drewN ?_ _ | refine blk_drew ?_ | refine blk_alloc ?_ _)); refine blk_put (cs := #[.int .i64 0, .int .i64 0, .int .i64 0]) ?_ 0 _ rfl; (with_reducible repeat (first | refine blk_drewN ?_ _ | refine blk_drew ?_ | refine blk_alloc ?_ _)); exact BK462.out) Try.underlying46 rfl (by kernel_rfl)) rfl ?_
 exact ⟨by first | rfl | (simp [errW_none, errW_some] <;> rfl) | (simp [*, errW_none, errW_some] <;> rfl), by repeat (first | (with_reducible first | exact HB.out | apply below_alloc | apply pw_below_drewN | apply below_drew1 | refine below_set ?_ GE462.out) | exact HB.out)⟩
end Go.Proofs.Ytjlbgopgeepiaaa.PConf
namespace Go.Proofs.Ytjlbgopgeepiaaa.PConf
open Go.RowKit Go.Proofs.YtjlbgopgeepiaaaW.PrintWords Go.Proofs.YtjlbgopgeepiaaaW.PrintLast Go.Proofs.YtjlbgopgeepiaaaW.PrintMore
attribute [local go_sem] max2_int min2_int max_two min_two max_three min_three max_four min_four plus_setCell_drewN plus_cell_same   -- for this text's walks alone
set_option linter.unusedVariables false
set_option linter.unusedSimpArgs false
def busbarref12_Plan.j0 : Nat → List (S46) → Int → Bool → Option (Int)
 | 0, _, _, _ => none
 | k + 1, x0, x1, x10 => if x10 = true then (some 1) else ((busbarref12_Canon.f k x0).bind fun t463 => (if t463 = true then ((busbarref12_control.f x1).bind fun bt464 => ((busbarref12_Meets.f k x0 bt464.1 bt464.2.1 bt464.2.2).bind fun t467 => (if t467 = true then (some 6) else (some 0)))) else (some 2)))
def busbarref12_Plan.f (k : Nat) (l0 : List (S46)) (a1 : Int) : Option (Int) := if a1 < 0 then (busbarref12_Plan.j0 k l0 a1 true) else (busbarref12_Plan.j0 k l0 a1 (decide (a1 > 65528)))
theorem busbarref12_Plan.mono_l : ∀ k, (∀ y0 y1 y2, LeO (busbarref12_Plan.j0 k y0 y1 y2) (busbarref12_Plan.j0 (k + 1) y0 y1 y2))
 | 0 => fun _ _ _ r h => by simp [busbarref12_Plan.j0] at h
 | k + 1 => by
  have ih0 := busbarref12_Plan.mono_l k
  ·
   intro y0 y1 y2
   unfold busbarref12_Plan.j0
   repeat' first
   | (with_reducible exact ih0 _ _ _)
   | (with_reducible exact busbarref12_Canon.mono _ _)
   | (with_reducible exact busbarref12_Meets.mono _ _ _ _ _)
   | (with_reducible exact LeO.refl _)
   | (with_reducible exact LeO.none _)
   | (with_reducible refine LeO.ite ?_ ?_)
   | (with_reducible refine LeO.bind ?_ (fun _ => ?_))
   | exact ih0 _ _ _
   | exact busbarref12_Canon.mono _ _
   | exact busbarref12_Meets.mono _ _ _ _ _
   | exact LeO.none _
   | refine LeO.ite ?_ ?_
   | refine LeO.bind ?_ (fun _ => ?_)
theorem busbarref12_Plan.mono : ∀ a0 a1 k, LeO (busbarref12_Plan.f k a0 a1) (busbarref12_Plan.f (k + 1) a0 a1) := by
 intro a0 a1 k
 have ih0 := busbarref12_Plan.mono_l k
 unfold busbarref12_Plan.f
 repeat' first
   | (with_reducible exact ih0 _ _ _)
   | (with_reducible exact busbarref12_Canon.mono _ _)
   | (with_reducible exact busbarref12_Meets.mono _ _ _ _ _)
   | (with_reducible exact LeO.refl _)
   | (with_reducible exact LeO.none _)
   | (with_reducible refine LeO.ite ?_ ?_)
   | (with_reducible refine LeO.bind ?_ (fun _ => ?_))
   | exact ih0 _ _ _
   | exact busbarref12_Canon.mono _ _
   | exact busbarref12_Meets.mono _ _ _ _ _
   | exact LeO.none _
   | refine LeO.ite ?_ ?_
   | refine LeO.bind ?_ (fun _ => ?_)
set_option maxHeartbeats 8000000 in
set_option maxRecDepth 100000 in
theorem busbarref12_Plan.calls (k : Nat) (A0 : Option Addr) (c0 : Nat) (l0 : List (S46)) (a1 : Int) (r : Int) (w : World) (hr0 : Kd.C k46 w A0 l0.length l0) (hc0 : l0.length ≤ c0) (h : busbarref12_Plan.f k l0 a1 = some r) :
  Calls Try.prog 23 #[.slice A0 l0.length c0, .int .i64 a1] w fun e w' => e = .returned (.int .i64 r) ∧ Below w.heap.size w w' := by
 have HR0 := Aside0.mk hr0
 have HC0 := Aside0.mk hc0
 clear hr0 hc0
 have HB := Aside0.mk (Below.refl w.heap.size w)
 have H : (if a1 < 0 then (busbarref12_Plan.j0 k l0 a1 true) else (busbarref12_Plan.j0 k l0 a1 (decide (a1 > 65528)))) = some r := h
 clear h
 have HC3 := Aside0.mk H
 clear H
 go_enter Try.func23, Try.ntmps23
 go_upto_region 1 with (fail)
 go_cut [10] (fun v10 wc => ∃ (kq : Nat) (x10_2 : Bool), v10 = .bool x10_2 ∧ Aside0 (busbarref12_Plan.j0 kq l0 a1 x10_2 = some r) ∧ Aside0 (kq ≤ k) ∧ Aside0 (Below w.heap.size w wc))
 case first =>
  have H := HC3.out
  clear HC3
  by_cases c4 : a1 < 0
  ·
   rw [if_pos c4] at H
   have c4b0 : decide (a1 < 0) = true := decide_eq_true c4
   clear c4
   (first | rw [c4b0] | (simp only [i64_w, i32_w]; rw [c4b0]) | skip)
   have H' := Aside0.mk H
   clear H
   go_wp2
   go_meet
   case rel => exact ⟨_, (true), (by first | rfl | (simp; done) | (simp [*]; done)), H', ⟨by first | omega | exact Nat.le_refl _⟩, ⟨HB.out⟩⟩
  ·
   rw [if_neg c4] at H
   have c4b0 : decide (a1 < 0) = false := decide_eq_false c4
   clear c4
   (first | rw [c4b0] | (simp only [i64_w, i32_w]; rw [c4b0]) | skip)
   have H' := Aside0.mk H
   clear H
   go_wp2
   go_meet
   case rel => exact ⟨_, (decide (a1 > 65528)), (by first | rfl | (simp; done) | (simp [*]; done)), H', ⟨by first | omega | exact Nat.le_refl _⟩, ⟨HB.out⟩⟩
 case rest =>
  clear HC3
  obtain ⟨kq, x10_2, rfl, HA, HJ2, HB⟩ := hcut
  cases kq with
  | zero => exact absurd HA.out (by simp [busbarref12_Plan.j0])
  | succ kj2 =>
   have H := HA.out
   clear HA
   simp only [busbarref12_Plan.j0] at H
   by_cases c5 : x10_2 = true
   ·
    subst c5
    have H1 : (some 1) = some r := by rw [if_pos rfl] at H; exact H
    clear H
    have H := H1
    clear H1
    obtain rfl := Option.some.inj H
    go_wp2
    go_ret
    exact ⟨by first | rfl | (simp [errW_none, errW_some] <;> rfl) | (simp [*, errW_none, errW_some] <;> rfl), HB.out⟩
   ·
    replace c5 := Bool.eq_false_iff.mpr c5
    subst c5
    have H1 : ((busbarref12_Canon.f kj2 l0).bind fun t463 => (if t463 = true then ((busbarref12_control.f a1).bind fun bt464 => ((busbarref12_Meets.f kj2 l0 bt464.1 bt464.2.1 bt464.2.2).bind fun t467 => (if t467 = true then (some 6) else (some 0)))) else (some 2))) = some r := by rw [if_neg (show ¬ (false = true) by decide)] at H; exact H
    clear H
    have H := H1
    clear H1
    replace H := Option.bind_eq_some_iff.mp H
    obtain ⟨t463, A60, H⟩ := H
    have A6 := Aside0.mk A60
    clear A60
    by_cases c7 : t463 = true
    ·
     subst c7
     have H1 : ((busbarref12_control.f a1).bind fun bt464 => ((busbarref12_Meets.f kj2 l0 bt464.1 bt464.2.1 bt464.2.2).bind fun t467 => (if t467 = true then (some 6) else (some 0)))) = some r := by rw [if_pos rfl] at H; exact H
     clear H
     have H := H1
     clear H1
     replace H := Option.bind_eq_some_iff.mp H
     obtain ⟨⟨t464, t465, t466⟩, A80, H⟩ := H
     replace H : ((busbarref12_Meets.f kj2 l0 t464 t465 t466).bind fun t467 => (if t467 = true then (some 6) else (some 0))) = some r := H
     have A8 := Aside0.mk A80
     clear A80
     replace H := Option.bind_eq_some_iff.mp H
     obtain ⟨t467, A90, H⟩ := H
     have A9 := Aside0.mk A90
     clear A90
     by_cases c10 : t467 = true
     ·
      subst c10
      have H1 : (some 6) = some r := by rw [if_pos rfl] at H; exact H
      clear H
      have H := H1
      clear H1
      obtain rfl := Option.some.inj H
      go_wp2_with (first | ((with_reducible refine gate_callee (f := 43) rfl ?_); refine goesL_ (some 12) rfl rfl Try.func43 (by kernel_rfl) rfl #[.slice A0 l0.length c0] rfl (by (try simp only [List.map_toArray, List.map_cons, List.map_nil]); first | done | rfl | (simp only [List.length_drop, List.length_take]; rfl)) ?_; (with_reducible refine (busbarref12_Canon.calls kj2 _ _ l0 true _ ?side1 ?side2 A6.out).mono ?_); (case side1 => repeat (first | exact (Kd.C_below HR0.out HB.out) | (with_reducible refine Kd.C_alloc ?_ _) | (with_reducible refine Kd.C_drewN ?_ _) | (with_reducible refine Kd.C_drew ?_))); (case side2 => exact HC0.out); rintro e w11 ⟨rfl, hb⟩; refine ⟨_, rfl, ?_⟩; replace HB := Aside0.mk (below_step (HB.out) hb); (try clear hb); (try clear hi)) | ((with_reducible refine gate_callee (f := 45) rfl ?_); refine goesL_ (some 16) rfl rfl Try.func45 (by kernel_rfl) rfl #[.int .i64 a1] rfl (by (try simp only [List.map_toArray, List.map_cons, List.map_nil]); first | done | rfl | (simp only [List.length_drop, List.length_take]; rfl)) ?_; (with_reducible refine (busbarref12_control.calls a1 t464 t465 t466 _ A8.out).mono ?_); rintro e w12 ⟨rfl, hb⟩; refine ⟨_, rfl, ?_⟩; replace HB := Aside0.mk (below_step (HB.out) hb); (try clear hb); (try clear hi)) | ((with_reducible refine gate_callee (f := 44) rfl ?_); refine goesL_ (some 17) rfl rfl Try.func44 (by kernel_rfl) rfl #[.slice A0 l0.length c0, .agg #[.int .i64 t464, .int .i64 t465, .int .i64 t466]] rfl (by (try simp only [List.map_toArray, List.map_cons, List.map_nil]); first | done | rfl | (simp only [List.length_drop, List.length_take]; rfl)) ?_; (with_reducible refine (busbarref12_Meets.calls kj2 _ _ l0 t464 t465 t466 true _ ?side1 ?side2 A9.out).mono ?_); (case side1 => repeat (first | exact (Kd.C_below HR0.out HB.out) | (with_reducible refine Kd.C_alloc ?_ _) | (with_reducible refine Kd.C_drewN ?_ _) | (with_reducible refine Kd.C_drew ?_))); (case side2 => exact HC0.out); rintro e w13 ⟨rfl, hb⟩; refine ⟨_, rfl, ?_⟩; replace HB := Aside0.mk (below_step (HB.out) hb); (try clear hb); (try clear hi)))
      go_ret
      exact ⟨by first | rfl | (simp [errW_none, errW_some] <;> rfl) | (simp [*, errW_none, errW_some] <;> rfl), HB.out⟩
     ·
      replace c10 := Bool.eq_false_iff.mpr c10
      subst c10
      have H1 : (some 0) = some r := by rw [if_neg (show ¬ (false = true) by decide)] at H; exact H
      clear H
      have H := H1
      clear H1
      obtain rfl := Option.some.inj H
      go_wp2_with (first | ((with_reducible refine gate_callee (f := 43) rfl ?_); refine goesL_ (some 12) rfl rfl Try.func43 (by kernel_rfl) rfl #[.slice A0 l0.length c0] rfl (by (try simp only [List.map_toArray, List.map_cons, List.map_nil]); first | done | rfl | (simp only [List.length_drop, List.length_take]; rfl)) ?_; (with_reducible refine (busbarref12_Canon.calls kj2 _ _ l0 true _ ?side1 ?side2 A6.out).mono ?_); (case side1 => repeat (first | exact (Kd.C_below HR0.out HB.out) | (with_reducible refine Kd.C_alloc ?_ _) | (with_reducible refine Kd.C_drewN ?_ _) | (with_reducible refine Kd.C_drew ?_))); (case side2 => exact HC0.out); rintro e w14 ⟨rfl, hb⟩; refine ⟨_, rfl, ?_⟩; replace HB := Aside0.mk (below_step (HB.out) hb); (try clear hb); (try clear hi)) | ((with_reducible refine gate_callee (f := 45) rfl ?_); refine goesL_ (some 16) rfl rfl Try.func45 (by kernel_rfl) rfl #[.int .i64 a1] rfl (by (try simp only [List.map_toArray, List.map_cons, List.map_nil]); first | done | rfl | (simp only [List.length_drop, List.length_take]; rfl)) ?_; (with_reducible refine (busbarref12_control.calls a1 t464 t465 t466 _ A8.out).mono ?_); rintro e w15 ⟨rfl, hb⟩; refine ⟨_, rfl, ?_⟩; replace HB := Aside0.mk (below_step (HB.out) hb); (try clear hb); (try clear hi)) | ((with_reducible refine gate_callee (f := 44) rfl ?_); refine goesL_ (some 17) rfl rfl Try.func44 (by kernel_rfl) rfl #[.slice A0 l0.length c0, .agg #[.int .i64 t464, .int .i64 t465, .int .i64 t466]] rfl (by (try simp only [List.map_toArray, List.map_cons, List.map_nil]); first | done | rfl | (simp only [List.length_drop, List.length_take]; rfl)) ?_; (with_reducible refine (busbarref12_Meets.calls kj2 _ _ l0 t464 t465 t466 false _ ?side1 ?side2 A9.out).mono ?_); (case side1 => repeat (first | exact (Kd.C_below HR0.out HB.out) | (with_reducible refine Kd.C_alloc ?_ _) | (with_reducible refine Kd.C_drewN ?_ _) | (with_reducible refine Kd.C_drew ?_))); (case side2 => exact HC0.out); rintro e w16 ⟨rfl, hb⟩; refine ⟨_, rfl, ?_⟩; replace HB := Aside0.mk (below_step (HB.out) hb); (try clear hb); (try clear hi)))
      go_ret
      exact ⟨by first | rfl | (simp [errW_none, errW_some] <;> rfl) | (simp [*, errW_none, errW_some] <;> rfl), HB.out⟩
    ·
     replace c7 := Bool.eq_false_iff.mpr c7
     subst c7
     have H1 : (some 2) = some r := by rw [if_neg (show ¬ (false = true) by decide)] at H; exact H
     clear H
     have H := H1
     clear H1
     obtain rfl := Option.some.inj H
     go_wp2_with (first | ((with_reducible refine gate_callee (f := 43) rfl ?_); refine goesL_ (some 12) rfl rfl Try.func43 (by kernel_rfl) rfl #[.slice A0 l0.length c0] rfl (by (try simp only [List.map_toArray, List.map_cons, List.map_nil]); first | done | rfl | (simp only [List.length_drop, List.length_take]; rfl)) ?_; (with_reducible refine (busbarref12_Canon.calls kj2 _ _ l0 false _ ?side1 ?side2 A6.out).mono ?_); (case side1 => repeat (first | exact (Kd.C_below HR0.out HB.out) | (with_reducible refine Kd.C_alloc ?_ _) | (with_reducible refine Kd.C_drewN ?_ _) | (with_reducible refine Kd.C_drew ?_))); (case side2 => exact HC0.out); rintro e w17 ⟨rfl, hb⟩; refine ⟨_, rfl, ?_⟩; replace HB := Aside0.mk (below_step (HB.out) hb); (try clear hb); (try clear hi)))
     go_ret
     exact ⟨by first | rfl | (simp [errW_none, errW_some] <;> rfl) | (simp [*, errW_none, errW_some] <;> rfl), HB.out⟩
end Go.Proofs.Ytjlbgopgeepiaaa.PConf
namespace Go.Proofs.Ytjlbgopgeepiaaa.PConf
open Go.RowKit Go.Proofs.YtjlbgopgeepiaaaW.PrintWords Go.Proofs.YtjlbgopgeepiaaaW.PrintLast Go.Proofs.YtjlbgopgeepiaaaW.PrintMore
attribute [local go_sem] max2_int min2_int max_two min_two max_three min_three max_four min_four plus_setCell_drewN plus_cell_same   -- for this text's walks alone
set_option linter.unusedVariables false
set_option linter.unusedSimpArgs false
def busbarref12_Covers.l0 : Nat → List (S46) → Int → Int → Int → Int → Option (Bool)
 | 0, _, _, _, _, _ => none
 | k + 1, x0, x5, x469000, x469001, x469002 => if x5 < (x0.length : Int) then (if 0 ≤ x5 then (if ((rd_T46 x0 x5).f0) = x469000 then (if ((rd_T46 x0 x5).f1) ≤ x469001 then (if x469002 ≤ ((rd_T46 x0 x5).f2) then (some true) else (busbarref12_Covers.l0 k x0 (wrap64 (x5 + 1)) x469000 x469001 x469002)) else (busbarref12_Covers.l0 k x0 (wrap64 (x5 + 1)) x469000 x469001 x469002)) else (busbarref12_Covers.l0 k x0 (wrap64 (x5 + 1)) x469000 x469001 x469002)) else (none)) else (some false)
def busbarref12_Covers.f (k : Nat) (l0 : List (S46)) (a1_0 : Int) (a1_1 : Int) (a1_2 : Int) : Option (Bool) := busbarref12_Covers.l0 k l0 0 a1_0 a1_1 a1_2
theorem busbarref12_Covers.mono_l : ∀ k, (∀ y0 y1 y2 y3 y4, LeO (busbarref12_Covers.l0 k y0 y1 y2 y3 y4) (busbarref12_Covers.l0 (k + 1) y0 y1 y2 y3 y4))
 | 0 => fun _ _ _ _ _ r h => by simp [busbarref12_Covers.l0] at h
 | k + 1 => by
  have ih0 := busbarref12_Covers.mono_l k
  ·
   intro y0 y1 y2 y3 y4
   unfold busbarref12_Covers.l0
   repeat' first
   | (with_reducible exact ih0 _ _ _ _ _)
   | (with_reducible exact LeO.refl _)
   | (with_reducible exact LeO.none _)
   | (with_reducible refine LeO.ite ?_ ?_)
   | (with_reducible refine LeO.bind ?_ (fun _ => ?_))
   | exact ih0 _ _ _ _ _
   | exact LeO.none _
   | refine LeO.ite ?_ ?_
   | refine LeO.bind ?_ (fun _ => ?_)
theorem busbarref12_Covers.mono : ∀ a0 a1 a2 a3 k, LeO (busbarref12_Covers.f k a0 a1 a2 a3) (busbarref12_Covers.f (k + 1) a0 a1 a2 a3) := by
 intro a0 a1 a2 a3 k
 have ih0 := busbarref12_Covers.mono_l k
 unfold busbarref12_Covers.f
 repeat' first
   | (with_reducible exact ih0 _ _ _ _ _)
   | (with_reducible exact LeO.refl _)
   | (with_reducible exact LeO.none _)
   | (with_reducible refine LeO.ite ?_ ?_)
   | (with_reducible refine LeO.bind ?_ (fun _ => ?_))
   | exact ih0 _ _ _ _ _
   | exact LeO.none _
   | refine LeO.ite ?_ ?_
   | refine LeO.bind ?_ (fun _ => ?_)
set_option maxHeartbeats 8000000 in
set_option maxRecDepth 100000 in
theorem busbarref12_Covers.calls (k : Nat) (A0 : Option Addr) (c0 : Nat) (l0 : List (S46)) (a1_0 : Int) (a1_1 : Int) (a1_2 : Int) (r : Bool) (w : World) (hr0 : Kd.C k46 w A0 l0.length l0) (hc0 : l0.length ≤ c0) (h : busbarref12_Covers.f k l0 a1_0 a1_1 a1_2 = some r) :
  Calls Try.prog 46 #[.slice A0 l0.length c0, .agg #[.int .i64 a1_0, .int .i64 a1_1, .int .i64 a1_2]] w fun e w' => e = .returned (.bool r) ∧ Below w.heap.size w w' := by
 have hu46 := Try.underlying46
 have HR0 := Aside0.mk hr0
 have HC0 := Aside0.mk hc0
 clear hr0 hc0
 have HB := Aside0.mk (Below.refl w.heap.size w)
 have H : (busbarref12_Covers.l0 k l0 0 a1_0 a1_1 a1_2) = some r := h
 clear h
 have H' := Aside0.mk H
 clear H
 go_enter Try.func46, Try.ntmps46
 go_wp2_with (first | ((with_reducible refine gate_dst (N := 3) rfl ?_); refine box_event ?hg (N := 3) ?hd (cs := #[.int .i64 a1_0, .int .i64 a1_1, .int .i64 a1_2]) (t := 46) ?hr ?_; (case hd => rfl); (case hg => rfl); (case hr => first | (go_simp; done) | (go_simp; rfl)); intro gb468 hg w3 hbox hb; have BK468 := Aside0.mk (hbox); have GW468 := Aside0.mk ((by rw [hg]; exact (below_size (HB.out)) : w.heap.size ≤ gb468)); have GE468 := Aside0.mk ((by rw [hg]; exact (below_size (HB.out)) : w.heap.size ≤ gb468)); replace HB := Aside0.mk (below_step (HB.out) hb); clear hb hbox hg))
 repeat (go_quiet (fail); try go_wp2_with (fail))
 go_loopg [5] k (fun kq v5 w' => ∃ (x5_1 : Int), v5 = .int .i64 x5_1 ∧ Aside0 (busbarref12_Covers.l0 kq l0 x5_1 a1_0 a1_1 a1_2 = some r) ∧ Aside0 (kq ≤ k) ∧ Aside0 (w'.heap[gb468]? = some (.cells #[.int .i64 a1_0, .int .i64 a1_1, .int .i64 a1_2] 46 (0, 0))) ∧ Aside0 (Below w.heap.size w w'))
 case atStart => exact ⟨(0), (by first | rfl | (simp; done) | (simp [*]; done)), H', ⟨Nat.le_refl _⟩, ⟨BK468.out⟩, ⟨HB.out⟩⟩
 case round =>
  clear H'
  obtain ⟨x5_1, rfl, HA, HK1, BK468, HB⟩ := hrel
  cases gk with
  | zero => exact absurd HA.out (by simp [busbarref12_Covers.l0])
  | succ k1 =>
   have H := HA.out
   clear HA
   simp only [busbarref12_Covers.l0] at H
   by_cases c4 : x5_1 < (l0.length : Int)
   ·
    rw [if_pos c4] at H
    have c4b0 : decide (x5_1 < (l0.length : Int)) = true := decide_eq_true c4
    clear c4
    by_cases c5 : 0 ≤ x5_1
    ·
     rw [if_pos c5] at H
     have c5b0 : decide (0 ≤ x5_1) = true := decide_eq_true c5
     clear c5
     by_cases c6 : ((rd_T46 l0 x5_1).f0) = a1_0
     ·
      rw [if_pos c6] at H
      have c6b0 : (((rd_T46 l0 x5_1).f0) == a1_0) = true := beq_iff_eq.mpr c6
      have c6b1 : (((rd_T46 l0 x5_1).f0) != a1_0) = false := bne_eq_false_iff_eq.mpr c6
      clear c6
      by_cases c7 : ((rd_T46 l0 x5_1).f1) ≤ a1_1
      ·
       rw [if_pos c7] at H
       have c7b0 : decide (((rd_T46 l0 x5_1).f1) ≤ a1_1) = true := decide_eq_true c7
       clear c7
       by_cases c8 : a1_2 ≤ ((rd_T46 l0 x5_1).f2)
       ·
        rw [if_pos c8] at H
        have c8b0 : decide (a1_2 ≤ ((rd_T46 l0 x5_1).f2)) = true := decide_eq_true c8
        clear c8
        obtain rfl := Option.some.inj H
        have p469 : 0 ≤ (x5_1 : Int) := of_decide_eq_true (by first | (with_reducible assumption) | assumption)
        have q469 : x5_1 < (l0.length : Int) := of_decide_eq_true (by first | (with_reducible assumption) | assumption)
        obtain ⟨ad469, e469, hx469_0, hx469_1, hx469_2⟩ := at_T46 HR0.out x5_1 p469 q469
        cases e469
        replace hx469_0 := (HB.out.cell (World.block_lt_of_cell? w _ hx469_0)).trans hx469_0
        replace hx469_1 := (HB.out.cell (World.block_lt_of_cell? w _ hx469_1)).trans hx469_1
        replace hx469_2 := (HB.out.cell (World.block_lt_of_cell? w _ hx469_2)).trans hx469_2
        replace p469 := eq_true p469
        replace q469 := eq_true q469
        obtain ⟨hcz9_0, hcz9_1, hcz9_2⟩ := blkc3 BK468.out
        obtain ⟨hfz9_0, hfz9_1, hfz9_2⟩ := blkf3 BK468.out
        have p470 : 0 ≤ (x5_1 : Int) := of_decide_eq_true (by first | (with_reducible assumption) | assumption)
        have q470 : x5_1 < (l0.length : Int) := of_decide_eq_true (by first | (with_reducible assumption) | assumption)
        obtain ⟨ad470, e470, hx470_0, hx470_1, hx470_2⟩ := at_T46 HR0.out x5_1 p470 q470
        obtain rfl : ad469 = ad470 := (by injection e470)
        replace hx470_0 := (HB.out.cell (World.block_lt_of_cell? w _ hx470_0)).trans hx470_0
        replace hx470_1 := (HB.out.cell (World.block_lt_of_cell? w _ hx470_1)).trans hx470_1
        replace hx470_2 := (HB.out.cell (World.block_lt_of_cell? w _ hx470_2)).trans hx470_2
        replace p470 := eq_true p470
        replace q470 := eq_true q470
        have p471 : 0 ≤ (x5_1 : Int) := of_decide_eq_true (by first | (with_reducible assumption) | assumption)
        have q471 : x5_1 < (l0.length : Int) := of_decide_eq_true (by first | (with_reducible assumption) | assumption)
        obtain ⟨ad471, e471, hx471_0, hx471_1, hx471_2⟩ := at_T46 HR0.out x5_1 p471 q471
        obtain rfl : ad469 = ad471 := (by injection e471)
        replace hx471_0 := (HB.out.cell (World.block_lt_of_cell? w _ hx471_0)).trans hx471_0
        replace hx471_1 := (HB.out.cell (World.block_lt_of_cell? w _ hx471_1)).trans hx471_1
        replace hx471_2 := (HB.out.cell (World.block_lt_of_cell? w _ hx471_2)).trans hx471_2
        replace p471 := eq_true p471
        replace q471 := eq_true q471
        go_wp2
        repeat (go_quiet (fail); try go_wp2)
        go_ret
        exact ⟨by first | rfl | (simp [errW_none, errW_some] <;> rfl) | (simp [*, errW_none, errW_some] <;> rfl), by repeat (first | (with_reducible first | exact HB.out | apply below_alloc | apply pw_below_drewN | apply below_drew1 | refine below_set ?_ GE468.out) | exact HB.out)⟩
       ·
        rw [if_neg c8] at H
        have c8b0 : decide (a1_2 ≤ ((rd_T46 l0 x5_1).f2)) = false := decide_eq_false c8
        clear c8
        have H' := Aside0.mk H
        clear H
        have p469 : 0 ≤ (x5_1 : Int) := of_decide_eq_true (by first | (with_reducible assumption) | assumption)
        have q469 : x5_1 < (l0.length : Int) := of_decide_eq_true (by first | (with_reducible assumption) | assumption)
        obtain ⟨ad469, e469, hx469_0, hx469_1, hx469_2⟩ := at_T46 HR0.out x5_1 p469 q469
        cases e469
        replace hx469_0 := (HB.out.cell (World.block_lt_of_cell? w _ hx469_0)).trans hx469_0
        replace hx469_1 := (HB.out.cell (World.block_lt_of_cell? w _ hx469_1)).trans hx469_1
        replace hx469_2 := (HB.out.cell (World.block_lt_of_cell? w _ hx469_2)).trans hx469_2
        replace p469 := eq_true p469
        replace q469 := eq_true q469
        obtain ⟨hcz10_0, hcz10_1, hcz10_2⟩ := blkc3 BK468.out
        obtain ⟨hfz10_0, hfz10_1, hfz10_2⟩ := blkf3 BK468.out
        have p470 : 0 ≤ (x5_1 : Int) := of_decide_eq_true (by first | (with_reducible assumption) | assumption)
        have q470 : x5_1 < (l0.length : Int) := of_decide_eq_true (by first | (with_reducible assumption) | assumption)
        obtain ⟨ad470, e470, hx470_0, hx470_1, hx470_2⟩ := at_T46 HR0.out x5_1 p470 q470
        obtain rfl : ad469 = ad470 := (by injection e470)
        replace hx470_0 := (HB.out.cell (World.block_lt_of_cell? w _ hx470_0)).trans hx470_0
        replace hx470_1 := (HB.out.cell (World.block_lt_of_cell? w _ hx470_1)).trans hx470_1
        replace hx470_2 := (HB.out.cell (World.block_lt_of_cell? w _ hx470_2)).trans hx470_2
        replace p470 := eq_true p470
        replace q470 := eq_true q470
        have p471 : 0 ≤ (x5_1 : Int) := of_decide_eq_true (by first | (with_reducible assumption) | assumption)
        have q471 : x5_1 < (l0.length : Int) := of_decide_eq_true (by first | (with_reducible assumption) | assumption)
        obtain ⟨ad471, e471, hx471_0, hx471_1, hx471_2⟩ := at_T46 HR0.out x5_1 p471 q471
        obtain rfl : ad469 = ad471 := (by injection e471)
        replace hx471_0 := (HB.out.cell (World.block_lt_of_cell? w _ hx471_0)).trans hx471_0
        replace hx471_1 := (HB.out.cell (World.block_lt_of_cell? w _ hx471_1)).trans hx471_1
        replace hx471_2 := (HB.out.cell (World.block_lt_of_cell? w _ hx471_2)).trans hx471_2
        replace p471 := eq_true p471
        replace q471 := eq_true q471
        go_wp2
        repeat (go_quiet (fail); try go_wp2)
        go_roundg k1
        case measure => have := HK1.out; omega
        case rel => exact ⟨(wrap64 (x5_1 + 1)), (by first | rfl | (simp; done) | (simp [*]; done)), H', ⟨by have := HK1.out; omega⟩, ⟨by (with_reducible repeat (first | refine blk_drewN ?_ _ | refine blk_drew ?_ | refine blk_alloc ?_ _)); exact BK468.out⟩, ⟨by repeat (first | (with_reducible first | exact HB.out | apply below_alloc | apply pw_below_drewN | apply below_drew1 | refine below_set ?_ GE468.out) | exact HB.out)⟩⟩
      ·
       rw [if_neg c7] at H
       have c7b0 : decide (((rd_T46 l0 x5_1).f1) ≤ a1_1) = false := decide_eq_false c7
       clear c7
       have H' := Aside0.mk H
       clear H
       have p469 : 0 ≤ (x5_1 : Int) := of_decide_eq_true (by first | (with_reducible assumption) | assumption)
       have q469 : x5_1 < (l0.length : Int) := of_decide_eq_true (by first | (with_reducible assumption) | assumption)
       obtain ⟨ad469, e469, hx469_0, hx469_1, hx469_2⟩ := at_T46 HR0.out x5_1 p469 q469
       cases e469
       replace hx469_0 := (HB.out.cell (World.block_lt_of_cell? w _ hx469_0)).trans hx469_0
       replace hx469_1 := (HB.out.cell (World.block_lt_of_cell? w _ hx469_1)).trans hx469_1
       replace hx469_2 := (HB.out.cell (World.block_lt_of_cell? w _ hx469_2)).trans hx469_2
       replace p469 := eq_true p469
       replace q469 := eq_true q469
       obtain ⟨hcz11_0, hcz11_1, hcz11_2⟩ := blkc3 BK468.out
       obtain ⟨hfz11_0, hfz11_1, hfz11_2⟩ := blkf3 BK468.out
       have p470 : 0 ≤ (x5_1 : Int) := of_decide_eq_true (by first | (with_reducible assumption) | assumption)
       have q470 : x5_1 < (l0.length : Int) := of_decide_eq_true (by first | (with_reducible assumption) | assumption)
       obtain ⟨ad470, e470, hx470_0, hx470_1, hx470_2⟩ := at_T46 HR0.out x5_1 p470 q470
       obtain rfl : ad469 = ad470 := (by injection e470)
       replace hx470_0 := (HB.out.cell (World.block_lt_of_cell? w _ hx470_0)).trans hx470_0
       replace hx470_1 := (HB.out.cell (World.block_lt_of_cell? w _ hx470_1)).trans hx470_1
       replace hx470_2 := (HB.out.cell (World.block_lt_of_cell? w _ hx470_2)).trans hx470_2
       replace p470 := eq_true p470
       replace q470 := eq_true q470
       go_wp2
       repeat (go_quiet (fail); try go_wp2)
       go_roundg k1
       case measure => have := HK1.out; omega
       case rel => exact ⟨(wrap64 (x5_1 + 1)), (by first | rfl | (simp; done) | (simp [*]; done)), H', ⟨by have := HK1.out; omega⟩, ⟨by (with_reducible repeat (first | refine blk_drewN ?_ _ | refine blk_drew ?_ | refine blk_alloc ?_ _)); exact BK468.out⟩, ⟨by repeat (first | (with_reducible first | exact HB.out | apply below_alloc | apply pw_below_drewN | apply below_drew1 | refine below_set ?_ GE468.out) | exact HB.out)⟩⟩
     ·
      rw [if_neg c6] at H
      have c6b0 : (((rd_T46 l0 x5_1).f0) == a1_0) = false := beq_eq_false_iff_ne.mpr c6
      have c6b1 : (((rd_T46 l0 x5_1).f0) != a1_0) = true := bne_iff_ne.mpr c6
      have H' := Aside0.mk H
      clear H
      have p469 : 0 ≤ (x5_1 : Int) := of_decide_eq_true (by first | (with_reducible assumption) | assumption)
      have q469 : x5_1 < (l0.length : Int) := of_decide_eq_true (by first | (with_reducible assumption) | assumption)
      obtain ⟨ad469, e469, hx469_0, hx469_1, hx469_2⟩ := at_T46 HR0.out x5_1 p469 q469
      cases e469
      replace hx469_0 := (HB.out.cell (World.block_lt_of_cell? w _ hx469_0)).trans hx469_0
      replace hx469_1 := (HB.out.cell (World.block_lt_of_cell? w _ hx469_1)).trans hx469_1
      replace hx469_2 := (HB.out.cell (World.block_lt_of_cell? w _ hx469_2)).trans hx469_2
      replace p469 := eq_true p469
      replace q469 := eq_true q469
      obtain ⟨hcz12_0, hcz12_1, hcz12_2⟩ := blkc3 BK468.out
      obtain ⟨hfz12_0, hfz12_1, hfz12_2⟩ := blkf3 BK468.out
      go_wp2
      repeat (go_quiet (fail); try go_wp2)
      go_roundg k1
      case measure => have := HK1.out; omega
      case rel => exact ⟨(wrap64 (x5_1 + 1)), (by first | rfl | (simp; done) | (simp [*]; done)), H', ⟨by have := HK1.out; omega⟩, ⟨by (with_reducible repeat (first | refine blk_drewN ?_ _ | refine blk_drew ?_ | refine blk_alloc ?_ _)); exact BK468.out⟩, ⟨by repeat (first | (with_reducible first | exact HB.out | apply below_alloc | apply pw_below_drewN | apply below_drew1 | refine below_set ?_ GE468.out) | exact HB.out)⟩⟩
    ·
     rw [if_neg c5] at H
     exact absurd H (by simp)
   ·
    rw [if_neg c4] at H
    have c4b0 : decide (x5_1 < (l0.length : Int)) = false := decide_eq_false c4
    clear c4
    obtain rfl := Option.some.inj H
    go_wp2
    repeat (go_quiet (fail); try go_wp2)
    go_ret
    exact ⟨by first | rfl | (simp [errW_none, errW_some] <;> rfl) | (simp [*, errW_none, errW_some] <;> rfl), HB.out⟩
end Go.Proofs.Ytjlbgopgeepiaaa.PConf
namespace Go.Proofs.Ytjlbgopgeepiaaa.PConf
open Go.RowKit Go.Proofs.YtjlbgopgeepiaaaW.PrintWords Go.Proofs.YtjlbgopgeepiaaaW.PrintLast Go.Proofs.YtjlbgopgeepiaaaW.PrintMore
attribute [local go_sem] max2_int min2_int max_two min_two max_three min_three max_four min_four plus_setCell_drewN plus_cell_same   -- for this text's walks alone
set_option linter.unusedVariables false
set_option linter.unusedSimpArgs false
mutual
def busbarref12_Groups.l0 : Nat → List (S48) → List (S46) → Int → Option (Int)
 | 0, _, _, _ => none
 | k + 1, x0, x1, x5 => if x5 < (x0.length : Int) then (if 0 ≤ x5 then (if ((rd_T48 x0 x5).f0) = 2 then (if ((rd_T48 x0 x5).f2) = 2 then (if ((rd_T48 x0 x5).f1) < 0 then (busbarref12_Groups.j1 k x0 x1 x5 true ((rd_T48 x0 x5).f0) ((rd_T48 x0 x5).f1) ((rd_T48 x0 x5).f2)) else (busbarref12_Groups.j1 k x0 x1 x5 (decide (((rd_T48 x0 x5).f1) ≥ 65536)) ((rd_T48 x0 x5).f0) ((rd_T48 x0 x5).f1) ((rd_T48 x0 x5).f2))) else (if ((rd_T48 x0 x5).f2) = 4 then (if ((rd_T48 x0 x5).f1) < 0 then (busbarref12_Groups.j1 k x0 x1 x5 true ((rd_T48 x0 x5).f0) ((rd_T48 x0 x5).f1) ((rd_T48 x0 x5).f2)) else (busbarref12_Groups.j1 k x0 x1 x5 (decide (((rd_T48 x0 x5).f1) ≥ 65536)) ((rd_T48 x0 x5).f0) ((rd_T48 x0 x5).f1) ((rd_T48 x0 x5).f2))) else (busbarref12_Groups.j1 k x0 x1 x5 true ((rd_T48 x0 x5).f0) ((rd_T48 x0 x5).f1) ((rd_T48 x0 x5).f2)))) else (if ((rd_T48 x0 x5).f0) = 3 then (if ((rd_T48 x0 x5).f2) = 2 then (if ((rd_T48 x0 x5).f1) < 0 then (busbarref12_Groups.j1 k x0 x1 x5 true ((rd_T48 x0 x5).f0) ((rd_T48 x0 x5).f1) ((rd_T48 x0 x5).f2)) else (busbarref12_Groups.j1 k x0 x1 x5 (decide (((rd_T48 x0 x5).f1) ≥ 65536)) ((rd_T48 x0 x5).f0) ((rd_T48 x0 x5).f1) ((rd_T48 x0 x5).f2))) else (if ((rd_T48 x0 x5).f2) = 4 then (if ((rd_T48 x0 x5).f1) < 0 then (busbarref12_Groups.j1 k x0 x1 x5 true ((rd_T48 x0 x5).f0) ((rd_T48 x0 x5).f1) ((rd_T48 x0 x5).f2)) else (busbarref12_Groups.j1 k x0 x1 x5 (decide (((rd_T48 x0 x5).f1) ≥ 65536)) ((rd_T48 x0 x5).f0) ((rd_T48 x0 x5).f1) ((rd_T48 x0 x5).f2))) else (busbarref12_Groups.j1 k x0 x1 x5 true ((rd_T48 x0 x5).f0) ((rd_T48 x0 x5).f1) ((rd_T48 x0 x5).f2)))) else (busbarref12_Groups.j1 k x0 x1 x5 true ((rd_T48 x0 x5).f0) ((rd_T48 x0 x5).f1) ((rd_T48 x0 x5).f2)))) else (none)) else (some 0)
def busbarref12_Groups.j1 : Nat → List (S48) → List (S46) → Int → Bool → Int → Int → Int → Option (Int)
 | 0, _, _, _, _, _, _, _ => none
 | k + 1, x0, x1, x5, x44, x474000, x474001, x474002 => if x44 = true then (some 1) else (if x474002 = 0 then (none) else (if (Int.tmod x474001 x474002) = 0 then (if x5 > 0 then (if 0 ≤ (wrap64 (x5 - 1)) then (if (wrap64 (x5 - 1)) < (x0.length : Int) then (if ((rd_T48 x0 (wrap64 (x5 - 1))).f0) > x474000 then (busbarref12_Groups.j2 k x0 x1 x5 true x474000 x474001 x474002) else (if ((rd_T48 x0 (wrap64 (x5 - 1))).f0) = x474000 then (busbarref12_Groups.j2 k x0 x1 x5 (decide ((wrap64 (((rd_T48 x0 (wrap64 (x5 - 1))).f1) + ((rd_T48 x0 (wrap64 (x5 - 1))).f2))) > x474001)) x474000 x474001 x474002) else (busbarref12_Groups.j2 k x0 x1 x5 false x474000 x474001 x474002))) else (none)) else (none)) else (busbarref12_Groups.j2 k x0 x1 x5 false x474000 x474001 x474002)) else (some 2)))
def busbarref12_Groups.j2 : Nat → List (S48) → List (S46) → Int → Bool → Int → Int → Int → Option (Int)
 | 0, _, _, _, _, _, _, _ => none
 | k + 1, x0, x1, x5, x92, x474000, x474001, x474002 => if x92 = true then (some 2) else ((busbarref12_Covers.f k x1 x474000 x474001 (wrap64 (x474001 + x474002))).bind fun t478 => (if t478 = true then (busbarref12_Groups.l0 k x0 x1 (wrap64 (x5 + 1))) else (some 5)))
end
def busbarref12_Groups.f (k : Nat) (l0 : List (S48)) (l1 : List (S46)) : Option (Int) := busbarref12_Groups.l0 k l0 l1 0
theorem busbarref12_Groups.mono_l : ∀ k, (∀ y0 y1 y2, LeO (busbarref12_Groups.l0 k y0 y1 y2) (busbarref12_Groups.l0 (k + 1) y0 y1 y2)) ∧ (∀ y0 y1 y2 y3 y4 y5 y6, LeO (busbarref12_Groups.j1 k y0 y1 y2 y3 y4 y5 y6) (busbarref12_Groups.j1 (k + 1) y0 y1 y2 y3 y4 y5 y6)) ∧ (∀ y0 y1 y2 y3 y4 y5 y6, LeO (busbarref12_Groups.j2 k y0 y1 y2 y3 y4 y5 y6) (busbarref12_Groups.j2 (k + 1) y0 y1 y2 y3 y4 y5 y6))
 | 0 => ⟨fun _ _ _ r h => by simp [busbarref12_Groups.l0] at h, fun _ _ _ _ _ _ _ r h => by simp [busbarref12_Groups.j1] at h, fun _ _ _ _ _ _ _ r h => by simp [busbarref12_Groups.j2] at h⟩
 | k + 1 => by
  obtain ⟨ih0, ih1, ih2⟩ := busbarref12_Groups.mono_l k
  refine ⟨?_, ?_, ?_⟩
  ·
   intro y0 y1 y2
   unfold busbarref12_Groups.l0
   repeat' first
   | (with_reducible exact ih0 _ _ _)
   | (with_reducible exact ih1 _ _ _ _ _ _ _)
   | (with_reducible exact ih2 _ _ _ _ _ _ _)
   | (with_reducible exact busbarref12_Covers.mono _ _ _ _ _)
   | (with_reducible exact LeO.refl _)
   | (with_reducible exact LeO.none _)
   | (with_reducible refine LeO.ite ?_ ?_)
   | (with_reducible refine LeO.bind ?_ (fun _ => ?_))
   | exact ih0 _ _ _
   | exact ih1 _ _ _ _ _ _ _
   | exact ih2 _ _ _ _ _ _ _
   | exact busbarref12_Covers.mono _ _ _ _ _
   | exact LeO.none _
   | refine LeO.ite ?_ ?_
   | refine LeO.bind ?_ (fun _ => ?_)
  ·
   intro y0 y1 y2 y3 y4 y5 y6
   unfold busbarref12_Groups.j1
   repeat' first
   | (with_reducible exact ih0 _ _ _)
   | (with_reducible exact ih1 _ _ _ _ _ _ _)
   | (with_reducible exact ih2 _ _ _ _ _ _ _)
   | (with_reducible exact busbarref12_Covers.mono _ _ _ _ _)
   | (with_reducible exact LeO.refl _)
   | (with_reducible exact LeO.none _)
   | (with_reducible refine LeO.ite ?_ ?_)
   | (with_reducible refine LeO.bind ?_ (fun _ => ?_))
   | exact ih0 _ _ _
   | exact ih1 _ _ _ _ _ _ _
   | exact ih2 _ _ _ _ _ _ _
   | exact busbarref12_Covers.mono _ _ _ _ _
   | exact LeO.none _
   | refine LeO.ite ?_ ?_
   | refine LeO.bind ?_ (fun _ => ?_)
  ·
   intro y0 y1 y2 y3 y4 y5 y6
   unfold busbarref12_Groups.j2
   repeat' first
   | (with_reducible exact ih0 _ _ _)
   | (with_reducible exact ih1 _ _ _ _ _ _ _)
   | (with_reducible exact ih2 _ _ _ _ _ _ _)
   | (with_reducible exact busbarref12_Covers.mono _ _ _ _ _)
   | (with_reducible exact LeO.refl _)
   | (with_reducible exact LeO.none _)
   | (with_reducible refine LeO.ite ?_ ?_)
   | (with_reducible refine LeO.bind ?_ (fun _ => ?_))
   | exact ih0 _ _ _
   | exact ih1 _ _ _ _ _ _ _
   | exact ih2 _ _ _ _ _ _ _
   | exact busbarref12_Covers.mono _ _ _ _ _
   | exact LeO.none _
   | refine LeO.ite ?_ ?_
   | refine LeO.bind ?_ (fun _ => ?_)
theorem busbarref12_Groups.mono : ∀ a0 a1 k, LeO (busbarref12_Groups.f k a0 a1) (busbarref12_Groups.f (k + 1) a0 a1) := by
 intro a0 a1 k
 obtain ⟨ih0, ih1, ih2⟩ := busbarref12_Groups.mono_l k
 unfold busbarref12_Groups.f
 repeat' first
   | (with_reducible exact ih0 _ _ _)
   | (with_reducible exact ih1 _ _ _ _ _ _ _)
   | (with_reducible exact ih2 _ _ _ _ _ _ _)
   | (with_reducible exact busbarref12_Covers.mono _ _ _ _ _)
   | (with_reducible exact LeO.refl _)
   | (with_reducible exact LeO.none _)
   | (with_reducible refine LeO.ite ?_ ?_)
   | (with_reducible refine LeO.bind ?_ (fun _ => ?_))
   | exact ih0 _ _ _
   | exact ih1 _ _ _ _ _ _ _
   | exact ih2 _ _ _ _ _ _ _
   | exact busbarref12_Covers.mono _ _ _ _ _
   | exact LeO.none _
   | refine LeO.ite ?_ ?_
   | refine LeO.bind ?_ (fun _ => ?_)
set_option maxHeartbeats 8000000 in
set_option maxRecDepth 100000 in
theorem busbarref12_Groups.calls (k : Nat) (A0 : Option Addr) (c0 : Nat) (l0 : List (S48)) (A1 : Option Addr) (c1 : Nat) (l1 : List (S46)) (r : Int) (w : World) (hr0 : Kd.C k48 w A0 l0.length l0) (hc0 : l0.length ≤ c0) (hr1 : Kd.C k46 w A1 l1.length l1) (hc1 : l1.length ≤ c1) (h : busbarref12_Groups.f k l0 l1 = some r) :
  Calls Try.prog 24 #[.slice A0 l0.length c0, .slice A1 l1.length c1] w fun e w' => e = .returned (.int .i64 r) ∧ Below w.heap.size w w' := by
 have hu48 := Try.underlying48
 have hu46 := Try.underlying46
 have HR0 := Aside0.mk hr0
 have HC0 := Aside0.mk hc0
 clear hr0 hc0
 have HR1 := Aside0.mk hr1
 have HC1 := Aside0.mk hc1
 clear hr1 hc1
 have HB := Aside0.mk (Below.refl w.heap.size w)
 have H : (busbarref12_Groups.l0 k l0 l1 0) = some r := h
 clear h
 have H' := Aside0.mk H
 clear H
 go_enter Try.func24, Try.ntmps24
 go_wp2
 repeat (go_quiet (fail); try go_wp2)
 go_loopg [5] k (fun kq v5 w' => ∃ (x5_1 : Int), v5 = .int .i64 x5_1 ∧ Aside0 (busbarref12_Groups.l0 kq l0 l1 x5_1 = some r) ∧ Aside0 (kq ≤ k) ∧ Aside0 (Below w.heap.size w w'))
 case atStart => exact ⟨(0), (by first | rfl | (simp; done) | (simp [*]; done)), H', ⟨Nat.le_refl _⟩, ⟨HB.out⟩⟩
 case round =>
  clear H'
  (try clear c1)
  obtain ⟨x5_1, rfl, HA, HK1, HB⟩ := hrel
  cases gk with
  | zero => exact absurd HA.out (by simp [busbarref12_Groups.l0])
  | succ k1 =>
   have H := HA.out
   clear HA
   simp only [busbarref12_Groups.l0] at H
   by_cases c3 : x5_1 < (l0.length : Int)
   ·
    rw [if_pos c3] at H
    have c3b0 : decide (x5_1 < (l0.length : Int)) = true := decide_eq_true c3
    clear c3
    by_cases c4 : 0 ≤ x5_1
    ·
     rw [if_pos c4] at H
     have c4b0 : decide (0 ≤ x5_1) = true := decide_eq_true c4
     clear c4
     have HC5 := Aside0.mk H
     clear H
     have p472 : 0 ≤ (x5_1 : Int) := of_decide_eq_true (by first | (with_reducible assumption) | assumption)
     have q472 : x5_1 < (l0.length : Int) := of_decide_eq_true (by first | (with_reducible assumption) | assumption)
     obtain ⟨ad472, e472, hx472_0, hx472_1, hx472_2⟩ := at_T48 HR0.out x5_1 p472 q472
     cases e472
     replace hx472_0 := (HB.out.cell (World.block_lt_of_cell? w _ hx472_0)).trans hx472_0
     replace hx472_1 := (HB.out.cell (World.block_lt_of_cell? w _ hx472_1)).trans hx472_1
     replace hx472_2 := (HB.out.cell (World.block_lt_of_cell? w _ hx472_2)).trans hx472_2
     replace p472 := eq_true p472
     replace q472 := eq_true q472
     go_upto_region 5 with (first | ((with_reducible refine gate_dst (N := 6) rfl ?_); refine box_event ?hg (N := 6) ?hd (cs := #[.int .i64 0, .int .i64 0, .int .i64 0]) (t := 48) ?hr ?_; (case hd => rfl); (case hg => rfl); (case hr => first | (go_simp; done) | (go_simp; rfl)); intro gb473 hg w6 hbox hb; have BK473 := Aside0.mk (hbox); have GW473 := Aside0.mk ((by rw [hg]; exact (below_size (HB.out)) : w.heap.size ≤ gb473)); have GE473 := Aside0.mk ((by rw [hg]; exact (below_size (HB.out)) : w.heap.size ≤ gb473)); replace HB := Aside0.mk (below_step (HB.out) hb); clear hb hbox hg; obtain ⟨hcz7_0, hcz7_1, hcz7_2⟩ := blkc3 BK473.out; obtain ⟨hfz7_0, hfz7_1, hfz7_2⟩ := blkf3 BK473.out))
     repeat (go_quiet (fail); go_upto_region 5 with (fail))
     (try simp only [Act.put, List.setIfInBounds_toArray, List.set_cons_zero, List.set_cons_succ])
     go_cut [44] (fun v44 wc => ∃ (kq : Nat) (x44_4 : Bool), v44 = .bool x44_4 ∧ Aside0 (busbarref12_Groups.j1 kq l0 l1 x5_1 x44_4 ((rd_T48 l0 x5_1).f0) ((rd_T48 l0 x5_1).f1) ((rd_T48 l0 x5_1).f2) = some r) ∧ Aside0 (kq ≤ k1) ∧ Aside0 (wc.heap[gb473]? = some (.cells #[.int .i64 ((rd_T48 l0 x5_1).f0), .int .i64 ((rd_T48 l0 x5_1).f1), .int .i64 ((rd_T48 l0 x5_1).f2)] 48 (0, 0))) ∧ Aside0 (Below w.heap.size w wc))
     case first =>
      have H := HC5.out
      clear HC5
      by_cases c8 : ((rd_T48 l0 x5_1).f0) = 2
      ·
       rw [if_pos c8] at H
       have c8b0 : (((rd_T48 l0 x5_1).f0) == 2) = true := beq_iff_eq.mpr c8
       have c8b1 : (((rd_T48 l0 x5_1).f0) != 2) = false := bne_eq_false_iff_eq.mpr c8
       clear c8
       (first | rw [c8b0] | (simp only [i64_w, i32_w]; rw [c8b0]) | skip)
       by_cases c9 : ((rd_T48 l0 x5_1).f2) = 2
       ·
        rw [if_pos c9] at H
        have c9b0 : (((rd_T48 l0 x5_1).f2) == 2) = true := beq_iff_eq.mpr c9
        have c9b1 : (((rd_T48 l0 x5_1).f2) != 2) = false := bne_eq_false_iff_eq.mpr c9
        clear c9
        by_cases c10 : ((rd_T48 l0 x5_1).f1) < 0
        ·
         rw [if_pos c10] at H
         have c10b0 : decide (((rd_T48 l0 x5_1).f1) < 0) = true := decide_eq_true c10
         clear c10
         have H' := Aside0.mk H
         clear H
         obtain ⟨hcz11_0, hcz11_1, hcz11_2⟩ := blkc3 BK473.out
         obtain ⟨hfz11_0, hfz11_1, hfz11_2⟩ := blkf3 BK473.out
         go_wp2
         repeat (go_quiet (fail); try go_wp2)
         go_meet
         case rel => exact ⟨_, (true), (by first | rfl | (simp; done) | (simp [*]; done)), H', ⟨by have := HK1.out; first | omega | exact Nat.le_refl _⟩, ⟨by (with_reducible repeat (first | refine blk_drewN ?_ _ | refine blk_drew ?_ | refine blk_alloc ?_ _)); refine blk_put (cs := #[.int .i64 ((rd_T48 l0 x5_1).f0), .int .i64 ((rd_T48 l0 x5_1).f1), .int .i64 0]) ?_ 2 _ rfl; (with_reducible repeat (first | refine blk_drewN ?_ _ | refine blk_drew ?_ | refine blk_alloc ?_ _)); refine blk_put (cs := #[.int .i64 ((rd_T48 l0 x5_1).f0), .int .i64 0, .int .i64 0]) ?_ 1 _ rfl; (with_reducible repeat (first | refine blk_drewN ?_ _ | refine blk_drew ?_ | refine blk_alloc ?_ _)); refine blk_put (cs := #[.int .i64 0, .int .i64 0, .int .i64 0]) ?_ 0 _ rfl; (with_reducible repeat (first | refine blk_drewN ?_ _ | refine blk_drew ?_ | refine blk_alloc ?_ _)); exact BK473.out⟩, ⟨by repeat (first | (with_reducible first | exact HB.out | apply below_alloc | apply pw_below_drewN | apply below_drew1 | refine below_set ?_ GE473.out) | exact HB.out)⟩⟩
        ·
         rw [if_neg c10] at H
         have c10b0 : decide (((rd_T48 l0 x5_1).f1) < 0) = false := decide_eq_false c10
         clear c10
         have H' := Aside0.mk H
         clear H
         obtain ⟨hcz12_0, hcz12_1, hcz12_2⟩ := blkc3 BK473.out
         obtain ⟨hfz12_0, hfz12_1, hfz12_2⟩ := blkf3 BK473.out
         go_wp2
         repeat (go_quiet (fail); try go_wp2)
         go_meet
         case rel => exact ⟨_, (decide (((rd_T48 l0 x5_1).f1) ≥ 65536)), (by first | rfl | (simp; done) | (simp [*]; done)), H', ⟨by have := HK1.out; first | omega | exact Nat.le_refl _⟩, ⟨by (with_reducible repeat (first | refine blk_drewN ?_ _ | refine blk_drew ?_ | refine blk_alloc ?_ _)); refine blk_put (cs := #[.int .i64 ((rd_T48 l0 x5_1).f0), .int .i64 ((rd_T48 l0 x5_1).f1), .int .i64 0]) ?_ 2 _ rfl; (with_reducible repeat (first | refine blk_drewN ?_ _ | refine blk_drew ?_ | refine blk_alloc ?_ _)); refine blk_put (cs := #[.int .i64 ((rd_T48 l0 x5_1).f0), .int .i64 0, .int .i64 0]) ?_ 1 _ rfl; (with_reducible repeat (first | refine blk_drewN ?_ _ | refine blk_drew ?_ | refine blk_alloc ?_ _)); refine blk_put (cs := #[.int .i64 0, .int .i64 0, .int .i64 0]) ?_ 0 _ rfl; (with_reducible repeat (first | refine blk_drewN ?_ _ | refine blk_drew ?_ | refine blk_alloc ?_ _)); exact BK473.out⟩, ⟨by repeat (first | (with_reducible first | exact HB.out | apply below_alloc | apply pw_below_drewN | apply below_drew1 | refine below_set ?_ GE473.out) | exact HB.out)⟩⟩
       ·
        rw [if_neg c9] at H
        have c9b0 : (((rd_T48 l0 x5_1).f2) == 2) = false := beq_eq_false_iff_ne.mpr c9
        have c9b1 : (((rd_T48 l0 x5_1).f2) != 2) = true := bne_iff_ne.mpr c9
        by_cases c13 : ((rd_T48 l0 x5_1).f2) = 4
        ·
         rw [if_pos c13] at H
         have c13b0 : (((rd_T48 l0 x5_1).f2) == 4) = true := beq_iff_eq.mpr c13
         have c13b1 : (((rd_T48 l0 x5_1).f2) != 4) = false := bne_eq_false_iff_eq.mpr c13
         clear c13
         by_cases c14 : ((rd_T48 l0 x5_1).f1) < 0
         ·
          rw [if_pos c14] at H
          have c14b0 : decide (((rd_T48 l0 x5_1).f1) < 0) = true := decide_eq_true c14
          clear c14
          have H' := Aside0.mk H
          clear H
          obtain ⟨hcz15_0, hcz15_1, hcz15_2⟩ := blkc3 BK473.out
          obtain ⟨hfz15_0, hfz15_1, hfz15_2⟩ := blkf3 BK473.out
          go_wp2
          repeat (go_quiet (fail); try go_wp2)
          go_meet
          case rel => exact ⟨_, (true), (by first | rfl | (simp; done) | (simp [*]; done)), H', ⟨by have := HK1.out; first | omega | exact Nat.le_refl _⟩, ⟨by (with_reducible repeat (first | refine blk_drewN ?_ _ | refine blk_drew ?_ | refine blk_alloc ?_ _)); refine blk_put (cs := #[.int .i64 ((rd_T48 l0 x5_1).f0), .int .i64 ((rd_T48 l0 x5_1).f1), .int .i64 0]) ?_ 2 _ rfl; (with_reducible repeat (first | refine blk_drewN ?_ _ | refine blk_drew ?_ | refine blk_alloc ?_ _)); refine blk_put (cs := #[.int .i64 ((rd_T48 l0 x5_1).f0), .int .i64 0, .int .i64 0]) ?_ 1 _ rfl; (with_reducible repeat (first | refine blk_drewN ?_ _ | refine blk_drew ?_ | refine blk_alloc ?_ _)); refine blk_put (cs := #[.int .i64 0, .int .i64 0, .int .i64 0]) ?_ 0 _ rfl; (with_reducible repeat (first | refine blk_drewN ?_ _ | refine blk_drew ?_ | refine blk_alloc ?_ _)); exact BK473.out⟩, ⟨by repeat (first | (with_reducible first | exact HB.out | apply below_alloc | apply pw_below_drewN | apply below_drew1 | refine below_set ?_ GE473.out) | exact HB.out)⟩⟩
         ·
          rw [if_neg c14] at H
          have c14b0 : decide (((rd_T48 l0 x5_1).f1) < 0) = false := decide_eq_false c14
          clear c14
          have H' := Aside0.mk H
          clear H
          obtain ⟨hcz16_0, hcz16_1, hcz16_2⟩ := blkc3 BK473.out
          obtain ⟨hfz16_0, hfz16_1, hfz16_2⟩ := blkf3 BK473.out
          go_wp2
          repeat (go_quiet (fail); try go_wp2)
          go_meet
          case rel => exact ⟨_, (decide (((rd_T48 l0 x5_1).f1) ≥ 65536)), (by first | rfl | (simp; done) | (simp [*]; done)), H', ⟨by have := HK1.out; first | omega | exact Nat.le_refl _⟩, ⟨by (with_reducible repeat (first | refine blk_drewN ?_ _ | refine blk_drew ?_ | refine blk_alloc ?_ _)); refine blk_put (cs := #[.int .i64 ((rd_T48 l0 x5_1).f0), .int .i64 ((rd_T48 l0 x5_1).f1), .int .i64 0]) ?_ 2 _ rfl; (with_reducible repeat (first | refine blk_drewN ?_ _ | refine blk_drew ?_ | refine blk_alloc ?_ _)); refine blk_put (cs := #[.int .i64 ((rd_T48 l0 x5_1).f0), .int .i64 0, .int .i64 0]) ?_ 1 _ rfl; (with_reducible repeat (first | refine blk_drewN ?_ _ | refine blk_drew ?_ | refine blk_alloc ?_ _)); refine blk_put (cs := #[.int .i64 0, .int .i64 0, .int .i64 0]) ?_ 0 _ rfl; (with_reducible repeat (first | refine blk_drewN ?_ _ | refine blk_drew ?_ | refine blk_alloc ?_ _)); exact BK473.out⟩, ⟨by repeat (first | (with_reducible first | exact HB.out | apply below_alloc | apply pw_below_drewN | apply below_drew1 | refine below_set ?_ GE473.out) | exact HB.out)⟩⟩
        ·
         rw [if_neg c13] at H
         have c13b0 : (((rd_T48 l0 x5_1).f2) == 4) = false := beq_eq_false_iff_ne.mpr c13
         have c13b1 : (((rd_T48 l0 x5_1).f2) != 4) = true := bne_iff_ne.mpr c13
         have H' := Aside0.mk H
         clear H
         obtain ⟨hcz17_0, hcz17_1, hcz17_2⟩ := blkc3 BK473.out
         obtain ⟨hfz17_0, hfz17_1, hfz17_2⟩ := blkf3 BK473.out
         go_wp2
         repeat (go_quiet (fail); try go_wp2)
         go_meet
         case rel => exact ⟨_, (true), (by first | rfl | (simp; done) | (simp [*]; done)), H', ⟨by have := HK1.out; first | omega | exact Nat.le_refl _⟩, ⟨by (with_reducible repeat (first | refine blk_drewN ?_ _ | refine blk_drew ?_ | refine blk_alloc ?_ _)); refine blk_put (cs := #[.int .i64 ((rd_T48 l0 x5_1).f0), .int .i64 ((rd_T48 l0 x5_1).f1), .int .i64 0]) ?_ 2 _ rfl; (with_reducible repeat (first | refine blk_drewN ?_ _ | refine blk_drew ?_ | refine blk_alloc ?_ _)); refine blk_put (cs := #[.int .i64 ((rd_T48 l0 x5_1).f0), .int .i64 0, .int .i64 0]) ?_ 1 _ rfl; (with_reducible repeat (first | refine blk_drewN ?_ _ | refine blk_drew ?_ | refine blk_alloc ?_ _)); refine blk_put (cs := #[.int .i64 0, .int .i64 0, .int .i64 0]) ?_ 0 _ rfl; (with_reducible repeat (first | refine blk_drewN ?_ _ | refine blk_drew ?_ | refine blk_alloc ?_ _)); exact BK473.out⟩, ⟨by repeat (first | (with_reducible first | exact HB.out | apply below_alloc | apply pw_below_drewN | apply below_drew1 | refine below_set ?_ GE473.out) | exact HB.out)⟩⟩
      ·
       rw [if_neg c8] at H
       have c8b0 : (((rd_T48 l0 x5_1).f0) == 2) = false := beq_eq_false_iff_ne.mpr c8
       have c8b1 : (((rd_T48 l0 x5_1).f0) != 2) = true := bne_iff_ne.mpr c8
       (first | rw [c8b0] | (simp only [i64_w, i32_w]; rw [c8b0]) | skip)
       by_cases c18 : ((rd_T48 l0 x5_1).f0) = 3
       ·
        rw [if_pos c18] at H
        have c18b0 : (((rd_T48 l0 x5_1).f0) == 3) = true := beq_iff_eq.mpr c18
        have c18b1 : (((rd_T48 l0 x5_1).f0) != 3) = false := bne_eq_false_iff_eq.mpr c18
        clear c18
        by_cases c19 : ((rd_T48 l0 x5_1).f2) = 2
        ·
         rw [if_pos c19] at H
         have c19b0 : (((rd_T48 l0 x5_1).f2) == 2) = true := beq_iff_eq.mpr c19
         have c19b1 : (((rd_T48 l0 x5_1).f2) != 2) = false := bne_eq_false_iff_eq.mpr c19
         clear c19
         by_cases c20 : ((rd_T48 l0 x5_1).f1) < 0
         ·
          rw [if_pos c20] at H
          have c20b0 : decide (((rd_T48 l0 x5_1).f1) < 0) = true := decide_eq_true c20
          clear c20
          have H' := Aside0.mk H
          clear H
          obtain ⟨hcz21_0, hcz21_1, hcz21_2⟩ := blkc3 BK473.out
          obtain ⟨hfz21_0, hfz21_1, hfz21_2⟩ := blkf3 BK473.out
          go_wp2
          repeat (go_quiet (fail); try go_wp2)
          go_meet
          case rel => exact ⟨_, (true), (by first | rfl | (simp; done) | (simp [*]; done)), H', ⟨by have := HK1.out; first | omega | exact Nat.le_refl _⟩, ⟨by (with_reducible repeat (first | refine blk_drewN ?_ _ | refine blk_drew ?_ | refine blk_alloc ?_ _)); refine blk_put (cs := #[.int .i64 ((rd_T48 l0 x5_1).f0), .int .i64 ((rd_T48 l0 x5_1).f1), .int .i64 0]) ?_ 2 _ rfl; (with_reducible repeat (first | refine blk_drewN ?_ _ | refine blk_drew ?_ | refine blk_alloc ?_ _)); refine blk_put (cs := #[.int .i64 ((rd_T48 l0 x5_1).f0), .int .i64 0, .int .i64 0]) ?_ 1 _ rfl; (with_reducible repeat (first | refine blk_drewN ?_ _ | refine blk_drew ?_ | refine blk_alloc ?_ _)); refine blk_put (cs := #[.int .i64 0, .int .i64 0, .int .i64 0]) ?_ 0 _ rfl; (with_reducible repeat (first | refine blk_drewN ?_ _ | refine blk_drew ?_ | refine blk_alloc ?_ _)); exact BK473.out⟩, ⟨by repeat (first | (with_reducible first | exact HB.out | apply below_alloc | apply pw_below_drewN | apply below_drew1 | refine below_set ?_ GE473.out) | exact HB.out)⟩⟩
         ·
          rw [if_neg c20] at H
          have c20b0 : decide (((rd_T48 l0 x5_1).f1) < 0) = false := decide_eq_false c20
          clear c20
          have H' := Aside0.mk H
          clear H
          obtain ⟨hcz22_0, hcz22_1, hcz22_2⟩ := blkc3 BK473.out
          obtain ⟨hfz22_0, hfz22_1, hfz22_2⟩ := blkf3 BK473.out
          go_wp2
          repeat (go_quiet (fail); try go_wp2)
          go_meet
          case rel => exact ⟨_, (decide (((rd_T48 l0 x5_1).f1) ≥ 65536)), (by first | rfl | (simp; done) | (simp [*]; done)), H', ⟨by have := HK1.out; first | omega | exact Nat.le_refl _⟩, ⟨by (with_reducible repeat (first | refine blk_drewN ?_ _ | refine blk_drew ?_ | refine blk_alloc ?_ _)); refine blk_put (cs := #[.int .i64 ((rd_T48 l0 x5_1).f0), .int .i64 ((rd_T48 l0 x5_1).f1), .int .i64 0]) ?_ 2 _ rfl; (with_reducible repeat (first | refine blk_drewN ?_ _ | refine blk_drew ?_ | refine blk_alloc ?_ _)); refine blk_put (cs := #[.int .i64 ((rd_T48 l0 x5_1).f0), .int .i64 0, .int .i64 0]) ?_ 1 _ rfl; (with_reducible repeat (first | refine blk_drewN ?_ _ | refine blk_drew ?_ | refine blk_alloc ?_ _)); refine blk_put (cs := #[.int .i64 0, .int .i64 0, .int .i64 0]) ?_ 0 _ rfl; (with_reducible repeat (first | refine blk_drewN ?_ _ | refine blk_drew ?_ | refine blk_alloc ?_ _)); exact BK473.out⟩, ⟨by repeat (first | (with_reducible first | exact HB.out | apply below_alloc | apply pw_below_drewN | apply below_drew1 | refine below_set ?_ GE473.out) | exact HB.out)⟩⟩
        ·
         rw [if_neg c19] at H
         have c19b0 : (((rd_T48 l0 x5_1).f2) == 2) = false := beq_eq_false_iff_ne.mpr c19
         have c19b1 : (((rd_T48 l0 x5_1).f2) != 2) = true := bne_iff_ne.mpr c19
         by_cases c23 : ((rd_T48 l0 x5_1).f2) = 4
         ·
          rw [if_pos c23] at H
          have c23b0 : (((rd_T48 l0 x5_1).f2) == 4) = true := beq_iff_eq.mpr c23
          have c23b1 : (((rd_T48 l0 x5_1).f2) != 4) = false := bne_eq_false_iff_eq.mpr c23
          clear c23
          by_cases c24 : ((rd_T48 l0 x5_1).f1) < 0
          ·
           rw [if_pos c24] at H
           have c24b0 : decide (((rd_T48 l0 x5_1).f1) < 0) = true := decide_eq_true c24
           clear c24
           have H' := Aside0.mk H
           clear H
           obtain ⟨hcz25_0, hcz25_1, hcz25_2⟩ := blkc3 BK473.out
           obtain ⟨hfz25_0, hfz25_1, hfz25_2⟩ := blkf3 BK473.out
           go_wp2
           repeat (go_quiet (fail); try go_wp2)
           go_meet
           case rel => exact ⟨_, (true), (by first | rfl | (simp; done) | (simp [*]; done)), H', ⟨by have := HK1.out; first | omega | exact Nat.le_refl _⟩, ⟨by (with_reducible repeat (first | refine blk_drewN ?_ _ | refine blk_drew ?_ | refine blk_alloc ?_ _)); refine blk_put (cs := #[.int .i64 ((rd_T48 l0 x5_1).f0), .int .i64 ((rd_T48 l0 x5_1).f1), .int .i64 0]) ?_ 2 _ rfl; (with_reducible repeat (first | refine blk_drewN ?_ _ | refine blk_drew ?_ | refine blk_alloc ?_ _)); refine blk_put (cs := #[.int .i64 ((rd_T48 l0 x5_1).f0), .int .i64 0, .int .i64 0]) ?_ 1 _ rfl; (with_reducible repeat (first | refine blk_drewN ?_ _ | refine blk_drew ?_ | refine blk_alloc ?_ _)); refine blk_put (cs := #[.int .i64 0, .int .i64 0, .int .i64 0]) ?_ 0 _ rfl; (with_reducible repeat (first | refine blk_drewN ?_ _ | refine blk_drew ?_ | refine blk_alloc ?_ _)); exact BK473.out⟩, ⟨by repeat (first | (with_reducible first | exact HB.out | apply below_alloc | apply pw_below_drewN | apply below_drew1 | refine below_set ?_ GE473.out) | exact HB.out)⟩⟩
          ·
           rw [if_neg c24] at H
           have c24b0 : decide (((rd_T48 l0 x5_1).f1) < 0) = false := decide_eq_false c24
           clear c24
           have H' := Aside0.mk H
           clear H
           obtain ⟨hcz26_0, hcz26_1, hcz26_2⟩ := blkc3 BK473.out
           obtain ⟨hfz26_0, hfz26_1, hfz26_2⟩ := blkf3 BK473.out
           go_wp2
           repeat (go_quiet (fail); try go_wp2)
           go_meet
           case rel => exact ⟨_, (decide (((rd_T48 l0 x5_1).f1) ≥ 65536)), (by first | rfl | (simp; done) | (simp [*]; done)), H', ⟨by have := HK1.out; first | omega | exact Nat.le_refl _⟩, ⟨by (with_reducible repeat (first | refine blk_drewN ?_ _ | refine blk_drew ?_ | refine blk_alloc ?_ _)); refine blk_put (cs := #[.int .i64 ((rd_T48 l0 x5_1).f0), .int .i64 ((rd_T48 l0 x5_1).f1), .int .i64 0]) ?_ 2 _ rfl; (with_reducible repeat (first | refine blk_drewN ?_ _ | refine blk_drew ?_ | refine blk_alloc ?_ _)); refine blk_put (cs := #[.int .i64 ((rd_T48 l0 x5_1).f0), .int .i64 0, .int .i64 0]) ?_ 1 _ rfl; (with_reducible repeat (first | refine blk_drewN ?_ _ | refine blk_drew ?_ | refine blk_alloc ?_ _)); refine blk_put (cs := #[.int .i64 0, .int .i64 0, .int .i64 0]) ?_ 0 _ rfl; (with_reducible repeat (first | refine blk_drewN ?_ _ | refine blk_drew ?_ | refine blk_alloc ?_ _)); exact BK473.out⟩, ⟨by repeat (first | (with_reducible first | exact HB.out | apply below_alloc | apply pw_below_drewN | apply below_drew1 | refine below_set ?_ GE473.out) | exact HB.out)⟩⟩
         ·
          rw [if_neg c23] at H
          have c23b0 : (((rd_T48 l0 x5_1).f2) == 4) = false := beq_eq_false_iff_ne.mpr c23
          have c23b1 : (((rd_T48 l0 x5_1).f2) != 4) = true := bne_iff_ne.mpr c23
          have H' := Aside0.mk H
          clear H
          obtain ⟨hcz27_0, hcz27_1, hcz27_2⟩ := blkc3 BK473.out
          obtain ⟨hfz27_0, hfz27_1, hfz27_2⟩ := blkf3 BK473.out
          go_wp2
          repeat (go_quiet (fail); try go_wp2)
          go_meet
          case rel => exact ⟨_, (true), (by first | rfl | (simp; done) | (simp [*]; done)), H', ⟨by have := HK1.out; first | omega | exact Nat.le_refl _⟩, ⟨by (with_reducible repeat (first | refine blk_drewN ?_ _ | refine blk_drew ?_ | refine blk_alloc ?_ _)); refine blk_put (cs := #[.int .i64 ((rd_T48 l0 x5_1).f0), .int .i64 ((rd_T48 l0 x5_1).f1), .int .i64 0]) ?_ 2 _ rfl; (with_reducible repeat (first | refine blk_drewN ?_ _ | refine blk_drew ?_ | refine blk_alloc ?_ _)); refine blk_put (cs := #[.int .i64 ((rd_T48 l0 x5_1).f0), .int .i64 0, .int .i64 0]) ?_ 1 _ rfl; (with_reducible repeat (first | refine blk_drewN ?_ _ | refine blk_drew ?_ | refine blk_alloc ?_ _)); refine blk_put (cs := #[.int .i64 0, .int .i64 0, .int .i64 0]) ?_ 0 _ rfl; (with_reducible repeat (first | refine blk_drewN ?_ _ | refine blk_drew ?_ | refine blk_alloc ?_ _)); exact BK473.out⟩, ⟨by repeat (first | (with_reducible first | exact HB.out | apply below_alloc | apply pw_below_drewN | apply below_drew1 | refine below_set ?_ GE473.out) | exact HB.out)⟩⟩
       ·
        rw [if_neg c18] at H
        have c18b0 : (((rd_T48 l0 x5_1).f0) == 3) = false := beq_eq_false_iff_ne.mpr c18
        have c18b1 : (((rd_T48 l0 x5_1).f0) != 3) = true := bne_iff_ne.mpr c18
        have H' := Aside0.mk H
        clear H
        obtain ⟨hcz28_0, hcz28_1, hcz28_2⟩ := blkc3 BK473.out
        obtain ⟨hfz28_0, hfz28_1, hfz28_2⟩ := blkf3 BK473.out
        go_wp2
        repeat (go_quiet (fail); try go_wp2)
        go_meet
        case rel => exact ⟨_, (true), (by first | rfl | (simp; done) | (simp [*]; done)), H', ⟨by have := HK1.out; first | omega | exact Nat.le_refl _⟩, ⟨by (with_reducible repeat (first | refine blk_drewN ?_ _ | refine blk_drew ?_ | refine blk_alloc ?_ _)); refine blk_put (cs := #[.int .i64 ((rd_T48 l0 x5_1).f0), .int .i64 ((rd_T48 l0 x5_1).f1), .int .i64 0]) ?_ 2 _ rfl; (with_reducible repeat (first | refine blk_drewN ?_ _ | refine blk_drew ?_ | refine blk_alloc ?_ _)); refine blk_put (cs := #[.int .i64 ((rd_T48 l0 x5_1).f0), .int .i64 0, .int .i64 0]) ?_ 1 _ rfl; (with_reducible repeat (first | refine blk_drewN ?_ _ | refine blk_drew ?_ | refine blk_alloc ?_ _)); refine blk_put (cs := #[.int .i64 0, .int .i64 0, .int .i64 0]) ?_ 0 _ rfl; (with_reducible repeat (first | refine blk_drewN ?_ _ | refine blk_drew ?_ | refine blk_alloc ?_ _)); exact BK473.out⟩, ⟨by repeat (first | (with_reducible first | exact HB.out | apply below_alloc | apply pw_below_drewN | apply below_drew1 | refine below_set ?_ GE473.out) | exact HB.out)⟩⟩
     case rest =>
      clear HC5
      (try clear c3b0); (try clear c4b0); (try clear hcz7_0); (try clear hcz7_1); (try clear hcz7_2); (try clear hfz7_0); (try clear hfz7_1); (try clear hfz7_2); (try clear hx472_0); (try clear hx472_1); (try clear hx472_2); (try clear p472); (try clear q472)
      obtain ⟨kq, x44_4, rfl, HA, HJ4, BK473, HB⟩ := hcut
      cases kq with
      | zero => exact absurd HA.out (by simp [busbarref12_Groups.j1])
      | succ kj4 =>
       have H := HA.out
       clear HA
       simp only [busbarref12_Groups.j1] at H
       by_cases c29 : x44_4 = true
       ·
        subst c29
        have H1 : (some 1) = some r := by rw [if_pos rfl] at H; exact H
        clear H
        have H := H1
        clear H1
        obtain rfl := Option.some.inj H
        go_wp2
        repeat (go_quiet (fail); try go_wp2)
        go_ret
        exact ⟨by first | rfl | (simp [errW_none, errW_some] <;> rfl) | (simp [*, errW_none, errW_some] <;> rfl), HB.out⟩
       ·
        replace c29 := Bool.eq_false_iff.mpr c29
        subst c29
        have H1 : (if ((rd_T48 l0 x5_1).f2) = 0 then (none) else (if (Int.tmod ((rd_T48 l0 x5_1).f1) ((rd_T48 l0 x5_1).f2)) = 0 then (if x5_1 > 0 then (if 0 ≤ (wrap64 (x5_1 - 1)) then (if (wrap64 (x5_1 - 1)) < (l0.length : Int) then (if ((rd_T48 l0 (wrap64 (x5_1 - 1))).f0) > ((rd_T48 l0 x5_1).f0) then (busbarref12_Groups.j2 kj4 l0 l1 x5_1 true ((rd_T48 l0 x5_1).f0) ((rd_T48 l0 x5_1).f1) ((rd_T48 l0 x5_1).f2)) else (if ((rd_T48 l0 (wrap64 (x5_1 - 1))).f0) = ((rd_T48 l0 x5_1).f0) then (busbarref12_Groups.j2 kj4 l0 l1 x5_1 (decide ((wrap64 (((rd_T48 l0 (wrap64 (x5_1 - 1))).f1) + ((rd_T48 l0 (wrap64 (x5_1 - 1))).f2))) > ((rd_T48 l0 x5_1).f1))) ((rd_T48 l0 x5_1).f0) ((rd_T48 l0 x5_1).f1) ((rd_T48 l0 x5_1).f2)) else (busbarref12_Groups.j2 kj4 l0 l1 x5_1 false ((rd_T48 l0 x5_1).f0) ((rd_T48 l0 x5_1).f1) ((rd_T48 l0 x5_1).f2)))) else (none)) else (none)) else (busbarref12_Groups.j2 kj4 l0 l1 x5_1 false ((rd_T48 l0 x5_1).f0) ((rd_T48 l0 x5_1).f1) ((rd_T48 l0 x5_1).f2))) else (some 2))) = some r := by rw [if_neg (show ¬ (false = true) by decide)] at H; exact H
        clear H
        have H := H1
        clear H1
        by_cases c30 : ((rd_T48 l0 x5_1).f2) = 0
        ·
         rw [if_pos c30] at H
         exact absurd H (by simp)
        ·
         rw [if_neg c30] at H
         have c30b0 : (((rd_T48 l0 x5_1).f2) == 0) = false := beq_eq_false_iff_ne.mpr c30
         have c30b1 : (((rd_T48 l0 x5_1).f2) != 0) = true := bne_iff_ne.mpr c30
         by_cases c31 : (Int.tmod ((rd_T48 l0 x5_1).f1) ((rd_T48 l0 x5_1).f2)) = 0
         ·
          rw [if_pos c31] at H
          have c31b0 : ((Int.tmod ((rd_T48 l0 x5_1).f1) ((rd_T48 l0 x5_1).f2)) == 0) = true := beq_iff_eq.mpr c31
          have c31b1 : ((Int.tmod ((rd_T48 l0 x5_1).f1) ((rd_T48 l0 x5_1).f2)) != 0) = false := bne_eq_false_iff_eq.mpr c31
          clear c31
          have HC32 := Aside0.mk H
          clear H
          obtain ⟨hcz33_0, hcz33_1, hcz33_2⟩ := blkc3 BK473.out
          obtain ⟨hfz33_0, hfz33_1, hfz33_2⟩ := blkf3 BK473.out
          go_upto_region 9 with (fail)
          repeat (go_quiet (fail); go_upto_region 9 with (fail))
          go_cut [92] (fun v92 wc => ∃ (kq : Nat) (x92_31 : Bool), v92 = .bool x92_31 ∧ Aside0 (busbarref12_Groups.j2 kq l0 l1 x5_1 x92_31 ((rd_T48 l0 x5_1).f0) ((rd_T48 l0 x5_1).f1) ((rd_T48 l0 x5_1).f2) = some r) ∧ Aside0 (kq ≤ kj4) ∧ Aside0 (wc.heap[gb473]? = some (.cells #[.int .i64 ((rd_T48 l0 x5_1).f0), .int .i64 ((rd_T48 l0 x5_1).f1), .int .i64 ((rd_T48 l0 x5_1).f2)] 48 (0, 0))) ∧ Aside0 (Below w.heap.size w wc))
          case first =>
           have H := HC32.out
           clear HC32
           by_cases c34 : x5_1 > 0
           ·
            rw [if_pos c34] at H
            have c34b0 : decide (0 < x5_1) = true := decide_eq_true c34
            clear c34
            (first | rw [c34b0] | (simp only [i64_w, i32_w]; rw [c34b0]) | skip)
            obtain ⟨ji35, hji35⟩ : ∃ j_ : Int, (wrap64 (x5_1 - 1)) = j_ := ⟨_, rfl⟩
            replace H : (if 0 ≤ (ji35) then (if (ji35) < (l0.length : Int) then (if ((rd_T48 l0 (ji35)).f0) > ((rd_T48 l0 x5_1).f0) then (busbarref12_Groups.j2 kj4 l0 l1 x5_1 true ((rd_T48 l0 x5_1).f0) ((rd_T48 l0 x5_1).f1) ((rd_T48 l0 x5_1).f2)) else (if ((rd_T48 l0 (ji35)).f0) = ((rd_T48 l0 x5_1).f0) then (busbarref12_Groups.j2 kj4 l0 l1 x5_1 (decide ((wrap64 (((rd_T48 l0 (ji35)).f1) + ((rd_T48 l0 (ji35)).f2))) > ((rd_T48 l0 x5_1).f1))) ((rd_T48 l0 x5_1).f0) ((rd_T48 l0 x5_1).f1) ((rd_T48 l0 x5_1).f2)) else (busbarref12_Groups.j2 kj4 l0 l1 x5_1 false ((rd_T48 l0 x5_1).f0) ((rd_T48 l0 x5_1).f1) ((rd_T48 l0 x5_1).f2)))) else (none)) else (none)) = some r := by first | (rw [hji35] at H; exact H) | (simp only [hji35] at H ⊢; exact H)
            have hji35w : (IntKind.i64.wrap (x5_1 - 1)) = ji35 := (i64_w _).trans hji35
            by_cases c36 : 0 ≤ (ji35)
            ·
             rw [if_pos c36] at H
             have c36b0 : decide (0 ≤ (ji35)) = true := decide_eq_true c36
             clear c36
             by_cases c37 : (ji35) < (l0.length : Int)
             ·
              rw [if_pos c37] at H
              have c37b0 : decide ((ji35) < (l0.length : Int)) = true := decide_eq_true c37
              clear c37
              by_cases c38 : ((rd_T48 l0 (ji35)).f0) > ((rd_T48 l0 x5_1).f0)
              ·
               rw [if_pos c38] at H
               have c38b0 : decide (((rd_T48 l0 x5_1).f0) < ((rd_T48 l0 (ji35)).f0)) = true := decide_eq_true c38
               clear c38
               have H' := Aside0.mk H
               clear H
               have p474 : 0 ≤ ((ji35) : Int) := of_decide_eq_true (by first | (with_reducible assumption) | assumption)
               have q474 : (ji35) < (l0.length : Int) := of_decide_eq_true (by first | (with_reducible assumption) | assumption)
               obtain ⟨ad474, e474, hx474_0, hx474_1, hx474_2⟩ := at_T48 HR0.out (ji35) p474 q474
               obtain rfl : ad472 = ad474 := (by injection e474)
               replace hx474_0 := (HB.out.cell (World.block_lt_of_cell? w _ hx474_0)).trans hx474_0
               replace hx474_1 := (HB.out.cell (World.block_lt_of_cell? w _ hx474_1)).trans hx474_1
               replace hx474_2 := (HB.out.cell (World.block_lt_of_cell? w _ hx474_2)).trans hx474_2
               replace p474 := eq_true p474
               replace q474 := eq_true q474
               obtain ⟨hcz39_0, hcz39_1, hcz39_2⟩ := blkc3 BK473.out
               obtain ⟨hfz39_0, hfz39_1, hfz39_2⟩ := blkf3 BK473.out
               go_wp2
               repeat (go_quiet (fail); try go_wp2)
               go_meet
               case rel => exact ⟨_, (true), (by first | rfl | (simp; done) | (simp [*]; done)), H', ⟨by have := HK1.out; have := HJ4.out; first | omega | exact Nat.le_refl _⟩, ⟨BK473.out⟩, ⟨by repeat (first | (with_reducible first | exact HB.out | apply below_alloc | apply pw_below_drewN | apply below_drew1 | refine below_set ?_ GE473.out) | exact HB.out)⟩⟩
              ·
               rw [if_neg c38] at H
               have c38b0 : decide (((rd_T48 l0 x5_1).f0) < ((rd_T48 l0 (ji35)).f0)) = false := decide_eq_false c38
               clear c38
               by_cases c40 : ((rd_T48 l0 (ji35)).f0) = ((rd_T48 l0 x5_1).f0)
               ·
                rw [if_pos c40] at H
                have c40b0 : (((rd_T48 l0 (ji35)).f0) == ((rd_T48 l0 x5_1).f0)) = true := beq_iff_eq.mpr c40
                have c40b1 : (((rd_T48 l0 (ji35)).f0) != ((rd_T48 l0 x5_1).f0)) = false := bne_eq_false_iff_eq.mpr c40
                clear c40
                have H' := Aside0.mk H
                clear H
                have p474 : 0 ≤ ((ji35) : Int) := of_decide_eq_true (by first | (with_reducible assumption) | assumption)
                have q474 : (ji35) < (l0.length : Int) := of_decide_eq_true (by first | (with_reducible assumption) | assumption)
                obtain ⟨ad474, e474, hx474_0, hx474_1, hx474_2⟩ := at_T48 HR0.out (ji35) p474 q474
                obtain rfl : ad472 = ad474 := (by injection e474)
                replace hx474_0 := (HB.out.cell (World.block_lt_of_cell? w _ hx474_0)).trans hx474_0
                replace hx474_1 := (HB.out.cell (World.block_lt_of_cell? w _ hx474_1)).trans hx474_1
                replace hx474_2 := (HB.out.cell (World.block_lt_of_cell? w _ hx474_2)).trans hx474_2
                replace p474 := eq_true p474
                replace q474 := eq_true q474
                obtain ⟨hcz41_0, hcz41_1, hcz41_2⟩ := blkc3 BK473.out
                obtain ⟨hfz41_0, hfz41_1, hfz41_2⟩ := blkf3 BK473.out
                have p475 : 0 ≤ ((ji35) : Int) := of_decide_eq_true (by first | (with_reducible assumption) | assumption)
                have q475 : (ji35) < (l0.length : Int) := of_decide_eq_true (by first | (with_reducible assumption) | assumption)
                obtain ⟨ad475, e475, hx475_0, hx475_1, hx475_2⟩ := at_T48 HR0.out (ji35) p475 q475
                obtain rfl : ad472 = ad475 := (by injection e475)
                replace hx475_0 := (HB.out.cell (World.block_lt_of_cell? w _ hx475_0)).trans hx475_0
                replace hx475_1 := (HB.out.cell (World.block_lt_of_cell? w _ hx475_1)).trans hx475_1
                replace hx475_2 := (HB.out.cell (World.block_lt_of_cell? w _ hx475_2)).trans hx475_2
                replace p475 := eq_true p475
                replace q475 := eq_true q475
                have p476 : 0 ≤ ((ji35) : Int) := of_decide_eq_true (by first | (with_reducible assumption) | assumption)
                have q476 : (ji35) < (l0.length : Int) := of_decide_eq_true (by first | (with_reducible assumption) | assumption)
                obtain ⟨ad476, e476, hx476_0, hx476_1, hx476_2⟩ := at_T48 HR0.out (ji35) p476 q476
                obtain rfl : ad472 = ad476 := (by injection e476)
                replace hx476_0 := (HB.out.cell (World.block_lt_of_cell? w _ hx476_0)).trans hx476_0
                replace hx476_1 := (HB.out.cell (World.block_lt_of_cell? w _ hx476_1)).trans hx476_1
                replace hx476_2 := (HB.out.cell (World.block_lt_of_cell? w _ hx476_2)).trans hx476_2
                replace p476 := eq_true p476
                replace q476 := eq_true q476
                have p477 : 0 ≤ ((ji35) : Int) := of_decide_eq_true (by first | (with_reducible assumption) | assumption)
                have q477 : (ji35) < (l0.length : Int) := of_decide_eq_true (by first | (with_reducible assumption) | assumption)
                obtain ⟨ad477, e477, hx477_0, hx477_1, hx477_2⟩ := at_T48 HR0.out (ji35) p477 q477
                obtain rfl : ad472 = ad477 := (by injection e477)
                replace hx477_0 := (HB.out.cell (World.block_lt_of_cell? w _ hx477_0)).trans hx477_0
                replace hx477_1 := (HB.out.cell (World.block_lt_of_cell? w _ hx477_1)).trans hx477_1
                replace hx477_2 := (HB.out.cell (World.block_lt_of_cell? w _ hx477_2)).trans hx477_2
                replace p477 := eq_true p477
                replace q477 := eq_true q477
                go_wp2
                repeat (go_quiet (fail); try go_wp2)
                go_meet
                case rel => exact ⟨_, (decide ((wrap64 (((rd_T48 l0 (ji35)).f1) + ((rd_T48 l0 (ji35)).f2))) > ((rd_T48 l0 x5_1).f1))), (by first | rfl | (simp; done) | (simp only [← hji35] <;> (first | rfl | simp)) | (simp [*]; done)), H', ⟨by have := HK1.out; have := HJ4.out; first | omega | exact Nat.le_refl _⟩, ⟨BK473.out⟩, ⟨by repeat (first | (with_reducible first | exact HB.out | apply below_alloc | apply pw_below_drewN | apply below_drew1 | refine below_set ?_ GE473.out) | exact HB.out)⟩⟩
               ·
                rw [if_neg c40] at H
                have c40b0 : (((rd_T48 l0 (ji35)).f0) == ((rd_T48 l0 x5_1).f0)) = false := beq_eq_false_iff_ne.mpr c40
                have c40b1 : (((rd_T48 l0 (ji35)).f0) != ((rd_T48 l0 x5_1).f0)) = true := bne_iff_ne.mpr c40
                have H' := Aside0.mk H
                clear H
                have p474 : 0 ≤ ((ji35) : Int) := of_decide_eq_true (by first | (with_reducible assumption) | assumption)
                have q474 : (ji35) < (l0.length : Int) := of_decide_eq_true (by first | (with_reducible assumption) | assumption)
                obtain ⟨ad474, e474, hx474_0, hx474_1, hx474_2⟩ := at_T48 HR0.out (ji35) p474 q474
                obtain rfl : ad472 = ad474 := (by injection e474)
                replace hx474_0 := (HB.out.cell (World.block_lt_of_cell? w _ hx474_0)).trans hx474_0
                replace hx474_1 := (HB.out.cell (World.block_lt_of_cell? w _ hx474_1)).trans hx474_1
                replace hx474_2 := (HB.out.cell (World.block_lt_of_cell? w _ hx474_2)).trans hx474_2
                replace p474 := eq_true p474
                replace q474 := eq_true q474
                obtain ⟨hcz42_0, hcz42_1, hcz42_2⟩ := blkc3 BK473.out
                obtain ⟨hfz42_0, hfz42_1, hfz42_2⟩ := blkf3 BK473.out
                have p475 : 0 ≤ ((ji35) : Int) := of_decide_eq_true (by first | (with_reducible assumption) | assumption)
                have q475 : (ji35) < (l0.length : Int) := of_decide_eq_true (by first | (with_reducible assumption) | assumption)
                obtain ⟨ad475, e475, hx475_0, hx475_1, hx475_2⟩ := at_T48 HR0.out (ji35) p475 q475
                obtain rfl : ad472 = ad475 := (by injection e475)
                replace hx475_0 := (HB.out.cell (World.block_lt_of_cell? w _ hx475_0)).trans hx475_0
                replace hx475_1 := (HB.out.cell (World.block_lt_of_cell? w _ hx475_1)).trans hx475_1
                replace hx475_2 := (HB.out.cell (World.block_lt_of_cell? w _ hx475_2)).trans hx475_2
                replace p475 := eq_true p475
                replace q475 := eq_true q475
                go_wp2
                repeat (go_quiet (fail); try go_wp2)
                go_meet
                case rel => exact ⟨_, (false), (by first | rfl | (simp; done) | (simp [*]; done)), H', ⟨by have := HK1.out; have := HJ4.out; first | omega | exact Nat.le_refl _⟩, ⟨BK473.out⟩, ⟨by repeat (first | (with_reducible first | exact HB.out | apply below_alloc | apply pw_below_drewN | apply below_drew1 | refine below_set ?_ GE473.out) | exact HB.out)⟩⟩
             ·
              rw [if_neg c37] at H
              exact absurd H (by simp)
            ·
             rw [if_neg c36] at H
             exact absurd H (by simp)
           ·
            rw [if_neg c34] at H
            have c34b0 : decide (0 < x5_1) = false := decide_eq_false c34
            clear c34
            (first | rw [c34b0] | (simp only [i64_w, i32_w]; rw [c34b0]) | skip)
            have H' := Aside0.mk H
            clear H
            go_wp2
            repeat (go_quiet (fail); try go_wp2)
            go_meet
            case rel => exact ⟨_, (false), (by first | rfl | (simp; done) | (simp [*]; done)), H', ⟨by have := HK1.out; have := HJ4.out; first | omega | exact Nat.le_refl _⟩, ⟨BK473.out⟩, ⟨by repeat (first | (with_reducible first | exact HB.out | apply below_alloc | apply pw_below_drewN | apply below_drew1 | refine below_set ?_ GE473.out) | exact HB.out)⟩⟩
          case rest =>
           clear HC32
           (try clear c30); (try clear c30b0); (try clear c30b1); (try clear c31b0); (try clear c31b1); (try clear hcz33_0); (try clear hcz33_1); (try clear hcz33_2); (try clear hfz33_0); (try clear hfz33_1); (try clear hfz33_2); (try clear q472)
           obtain ⟨kq, x92_31, rfl, HA, HJ31, BK473, HB⟩ := hcut
           cases kq with
           | zero => exact absurd HA.out (by simp [busbarref12_Groups.j2])
           | succ kj31 =>
            have H := HA.out
            clear HA
            simp only [busbarref12_Groups.j2] at H
            by_cases c43 : x92_31 = true
            ·
             subst c43
             have H1 : (some 2) = some r := by rw [if_pos rfl] at H; exact H
             clear H
             have H := H1
             clear H1
             obtain rfl := Option.some.inj H
             go_wp2
             repeat (go_quiet (fail); try go_wp2)
             go_ret
             exact ⟨by first | rfl | (simp [errW_none, errW_some] <;> rfl) | (simp [*, errW_none, errW_some] <;> rfl), HB.out⟩
            ·
             replace c43 := Bool.eq_false_iff.mpr c43
             subst c43
             have H1 : ((busbarref12_Covers.f kj31 l1 ((rd_T48 l0 x5_1).f0) ((rd_T48 l0 x5_1).f1) (wrap64 (((rd_T48 l0 x5_1).f1) + ((rd_T48 l0 x5_1).f2)))).bind fun t478 => (if t478 = true then (busbarref12_Groups.l0 kj31 l0 l1 (wrap64 (x5_1 + 1))) else (some 5))) = some r := by rw [if_neg (show ¬ (false = true) by decide)] at H; exact H
             clear H
             have H := H1
             clear H1
             replace H := Option.bind_eq_some_iff.mp H
             obtain ⟨t478, A440, H⟩ := H
             have A44 := Aside0.mk A440
             clear A440
             by_cases c45 : t478 = true
             ·
              subst c45
              have H1 : (busbarref12_Groups.l0 kj31 l0 l1 (wrap64 (x5_1 + 1))) = some r := by rw [if_pos rfl] at H; exact H
              clear H
              have H := H1
              clear H1
              have H' := Aside0.mk H
              clear H
              obtain ⟨hcz46_0, hcz46_1, hcz46_2⟩ := blkc3 BK473.out
              obtain ⟨hfz46_0, hfz46_1, hfz46_2⟩ := blkf3 BK473.out
              go_wp2_with (first | (go_at_call 46; (with_reducible refine (busbarref12_Covers.calls kj31 _ _ l1 ((rd_T48 l0 x5_1).f0) ((rd_T48 l0 x5_1).f1) (wrap64 (((rd_T48 l0 x5_1).f1) + ((rd_T48 l0 x5_1).f2))) true _ ?side1 ?side2 A44.out).mono ?_); (case side1 => repeat (first | exact (Kd.C_below HR1.out HB.out) | (with_reducible refine Kd.C_alloc ?_ _) | (with_reducible refine Kd.C_drewN ?_ _) | (with_reducible refine Kd.C_drew ?_))); (case side2 => exact HC1.out); rintro e w47 ⟨rfl, hb⟩; replace BK473 := Aside0.mk (blk_below BK473.out hb); replace HB := Aside0.mk (below_step (HB.out) hb); (try clear hb); (try clear hi)))
              repeat (go_quiet (fail); try go_wp2_with (fail))
              go_roundg kj31
              case measure => have := HK1.out; have := HJ4.out; have := HJ31.out; omega
              case rel => exact ⟨(wrap64 (x5_1 + 1)), (by first | rfl | (simp; done) | (simp [*]; done)), H', ⟨by have := HK1.out; have := HJ4.out; have := HJ31.out; omega⟩, ⟨HB.out⟩⟩
             ·
              replace c45 := Bool.eq_false_iff.mpr c45
              subst c45
              have H1 : (some 5) = some r := by rw [if_neg (show ¬ (false = true) by decide)] at H; exact H
              clear H
              have H := H1
              clear H1
              obtain rfl := Option.some.inj H
              obtain ⟨hcz48_0, hcz48_1, hcz48_2⟩ := blkc3 BK473.out
              obtain ⟨hfz48_0, hfz48_1, hfz48_2⟩ := blkf3 BK473.out
              go_wp2_with (first | (go_at_call 46; (with_reducible refine (busbarref12_Covers.calls kj31 _ _ l1 ((rd_T48 l0 x5_1).f0) ((rd_T48 l0 x5_1).f1) (wrap64 (((rd_T48 l0 x5_1).f1) + ((rd_T48 l0 x5_1).f2))) false _ ?side1 ?side2 A44.out).mono ?_); (case side1 => repeat (first | exact (Kd.C_below HR1.out HB.out) | (with_reducible refine Kd.C_alloc ?_ _) | (with_reducible refine Kd.C_drewN ?_ _) | (with_reducible refine Kd.C_drew ?_))); (case side2 => exact HC1.out); rintro e w49 ⟨rfl, hb⟩; replace BK473 := Aside0.mk (blk_below BK473.out hb); replace HB := Aside0.mk (below_step (HB.out) hb); (try clear hb); (try clear hi)))
              repeat (go_quiet (fail); try go_wp2_with (fail))
              go_ret
              exact ⟨by first | rfl | (simp [errW_none, errW_some] <;> rfl) | (simp [*, errW_none, errW_some] <;> rfl), HB.out⟩
         ·
          rw [if_neg c31] at H
          have c31b0 : ((Int.tmod ((rd_T48 l0 x5_1).f1) ((rd_T48 l0 x5_1).f2)) == 0) = false := beq_eq_false_iff_ne.mpr c31
          have c31b1 : ((Int.tmod ((rd_T48 l0 x5_1).f1) ((rd_T48 l0 x5_1).f2)) != 0) = true := bne_iff_ne.mpr c31
          obtain rfl := Option.some.inj H
          obtain ⟨hcz50_0, hcz50_1, hcz50_2⟩ := blkc3 BK473.out
          obtain ⟨hfz50_0, hfz50_1, hfz50_2⟩ := blkf3 BK473.out
          go_wp2
          repeat (go_quiet (fail); try go_wp2)
          go_ret
          exact ⟨by first | rfl | (simp [errW_none, errW_some] <;> rfl) | (simp [*, errW_none, errW_some] <;> rfl), HB.out⟩
    ·
     rw [if_neg c4] at H
     exact absurd H (by simp)
   ·
    rw [if_neg c3] at H
    have c3b0 : decide (x5_1 < (l0.length : Int)) = false := decide_eq_false c3
    clear c3
    obtain rfl := Option.some.inj H
    go_wp2
    repeat (go_quiet (fail); try go_wp2)
    go_ret
    exact ⟨by first | rfl | (simp [errW_none, errW_some] <;> rfl) | (simp [*, errW_none, errW_some] <;> rfl), HB.out⟩
end Go.Proofs.Ytjlbgopgeepiaaa.PConf
namespace Go.Proofs.Ytjlbgopgeepiaaa.PConf
open Go.RowKit Go.Proofs.YtjlbgopgeepiaaaW.PrintWords Go.Proofs.YtjlbgopgeepiaaaW.PrintLast Go.Proofs.YtjlbgopgeepiaaaW.PrintMore
attribute [local go_sem] max2_int min2_int max_two min_two max_three min_three max_four min_four plus_setCell_drewN plus_cell_same   -- for this text's walks alone
set_option linter.unusedVariables false
set_option linter.unusedSimpArgs false
def busbarref5_byteful.f (a0 : Int) : Option (Bool) := if a0 ≥ 0 then (some (decide (a0 ≤ 255))) else (some false)
set_option maxHeartbeats 8000000 in
set_option maxRecDepth 100000 in
theorem busbarref5_byteful.calls (a0 : Int) (r : Bool) (w : World) (h : busbarref5_byteful.f a0 = some r) :
  Calls Try.prog 47 #[.int .i64 a0] w fun e w' => e = .returned (.bool r) ∧ Drawn0 w w' := by
 have H : (if a0 ≥ 0 then (some (decide (a0 ≤ 255))) else (some false)) = some r := h
 clear h
 by_cases c2 : a0 ≥ 0
 ·
  rw [if_pos c2] at H
  have c2b0 : decide (0 ≤ a0) = true := decide_eq_true c2
  clear c2
  obtain rfl := Option.some.inj H
  go_enter Try.func47, Try.ntmps47
  go_wp2
  go_ret
  exact ⟨by first | rfl | (simp; done) | (simp [*]; done), by repeat (first | exact Drawn0.refl _ | apply Drawn0.step)⟩
 ·
  rw [if_neg c2] at H
  have c2b0 : decide (0 ≤ a0) = false := decide_eq_false c2
  clear c2
  obtain rfl := Option.some.inj H
  go_enter Try.func47, Try.ntmps47
  go_wp2
  go_ret
  exact ⟨by first | rfl | (simp; done) | (simp [*]; done), by repeat (first | exact Drawn0.refl _ | apply Drawn0.step)⟩
end Go.Proofs.Ytjlbgopgeepiaaa.PConf
namespace Go.Proofs.Ytjlbgopgeepiaaa.PConf
open Go.RowKit Go.Proofs.YtjlbgopgeepiaaaW.PrintWords Go.Proofs.YtjlbgopgeepiaaaW.PrintLast Go.Proofs.YtjlbgopgeepiaaaW.PrintMore
attribute [local go_sem] max2_int min2_int max_two min_two max_three min_three max_four min_four plus_setCell_drewN plus_cell_same   -- for this text's walks alone
set_option linter.unusedVariables false
set_option linter.unusedSimpArgs false
mutual
def busbarref5_Objects.l0 : Nat → List (S50) → Int → Option (Int)
 | 0, _, _ => none
 | k + 1, x0, x3 => if x3 < (x0.length : Int) then (if 0 ≤ x3 then ((busbarref5_byteful.f ((rd_T50 x0 x3).f0)).bind fun t480 => (if t480 = true then (if x3 > 0 then (if 0 ≤ (wrap64 (x3 - 1)) then (if (wrap64 (x3 - 1)) < (x0.length : Int) then (if ((rd_T50 x0 (wrap64 (x3 - 1))).f0) ≥ ((rd_T50 x0 x3).f0) then (some 1) else (busbarref5_Objects.l0 k x0 (wrap64 (x3 + 1)))) else (none)) else (none)) else (busbarref5_Objects.l0 k x0 (wrap64 (x3 + 1)))) else (some 1))) else (none)) else (busbarref5_Objects.l1 k x0 0)
def busbarref5_Objects.l1 : Nat → List (S50) → Int → Option (Int)
 | 0, _, _ => none
 | k + 1, x0, x4 => if x4 < (x0.length : Int) then (if 0 ≤ x4 then (if (((rd_T50 x0 x4).f1).size : Int) > 244 then (some 4) else (busbarref5_Objects.l1 k x0 (wrap64 (x4 + 1)))) else (none)) else (busbarref5_Objects.l2 k x0 0)
def busbarref5_Objects.l2 : Nat → List (S50) → Int → Option (Int)
 | 0, _, _ => none
 | k + 1, x0, x5 => if x5 < 3 then (if x5 ≥ (x0.length : Int) then (some 5) else (if 0 ≤ x5 then (if x5 < (x0.length : Int) then (if ((rd_T50 x0 x5).f0) = x5 then (busbarref5_Objects.l2 k x0 (wrap64 (x5 + 1))) else (some 5)) else (none)) else (none))) else (some 0)
end
def busbarref5_Objects.f (k : Nat) (l0 : List (S50)) : Option (Int) := busbarref5_Objects.l0 k l0 0
theorem busbarref5_Objects.mono_l : ∀ k, (∀ y0 y1, LeO (busbarref5_Objects.l0 k y0 y1) (busbarref5_Objects.l0 (k + 1) y0 y1)) ∧ (∀ y0 y1, LeO (busbarref5_Objects.l1 k y0 y1) (busbarref5_Objects.l1 (k + 1) y0 y1)) ∧ (∀ y0 y1, LeO (busbarref5_Objects.l2 k y0 y1) (busbarref5_Objects.l2 (k + 1) y0 y1))
 | 0 => ⟨fun _ _ r h => by simp [busbarref5_Objects.l0] at h, fun _ _ r h => by simp [busbarref5_Objects.l1] at h, fun _ _ r h => by simp [busbarref5_Objects.l2] at h⟩
 | k + 1 => by
  obtain ⟨ih0, ih1, ih2⟩ := busbarref5_Objects.mono_l k
  refine ⟨?_, ?_, ?_⟩
  ·
   intro y0 y1
   unfold busbarref5_Objects.l0
   repeat' first
   | (with_reducible exact ih0 _ _)
   | (with_reducible exact ih1 _ _)
   | (with_reducible exact ih2 _ _)
   | (with_reducible exact LeO.refl _)
   | (with_reducible exact LeO.none _)
   | (with_reducible refine LeO.ite ?_ ?_)
   | (with_reducible refine LeO.bind ?_ (fun _ => ?_))
   | exact ih0 _ _
   | exact ih1 _ _
   | exact ih2 _ _
   | exact LeO.none _
   | refine LeO.ite ?_ ?_
   | refine LeO.bind ?_ (fun _ => ?_)
  ·
   intro y0 y1
   unfold busbarref5_Objects.l1
   repeat' first
   | (with_reducible exact ih0 _ _)
   | (with_reducible exact ih1 _ _)
   | (with_reducible exact ih2 _ _)
   | (with_reducible exact LeO.refl _)
   | (with_reducible exact LeO.none _)
   | (with_reducible refine LeO.ite ?_ ?_)
   | (with_reducible refine LeO.bind ?_ (fun _ => ?_))
   | exact ih0 _ _
   | exact ih1 _ _
   | exact ih2 _ _
   | exact LeO.none _
   | refine LeO.ite ?_ ?_
   | refine LeO.bind ?_ (fun _ => ?_)
  ·
   intro y0 y1
   unfold busbarref5_Objects.l2
   repeat' first
   | (with_reducible exact ih0 _ _)
   | (with_reducible exact ih1 _ _)
   | (with_reducible exact ih2 _ _)
   | (with_reducible exact LeO.refl _)
   | (with_reducible exact LeO.none _)
   | (with_reducible refine LeO.ite ?_ ?_)
   | (with_reducible refine LeO.bind ?_ (fun _ => ?_))
   | exact ih0 _ _
   | exact ih1 _ _
   | exact ih2 _ _
   | exact LeO.none _
   | refine LeO.ite ?_ ?_
   | refine LeO.bind ?_ (fun _ => ?_)
theorem busbarref5_Objects.mono : ∀ a0 k, LeO (busbarref5_Objects.f k a0) (busbarref5_Objects.f (k + 1) a0) := by
 intro a0 k
 obtain ⟨ih0, ih1, ih2⟩ := busbarref5_Objects.mono_l k
 unfold busbarref5_Objects.f
 repeat' first
   | (with_reducible exact ih0 _ _)
   | (with_reducible exact ih1 _ _)
   | (with_reducible exact ih2 _ _)
   | (with_reducible exact LeO.refl _)
   | (with_reducible exact LeO.none _)
   | (with_reducible refine LeO.ite ?_ ?_)
   | (with_reducible refine LeO.bind ?_ (fun _ => ?_))
   | exact ih0 _ _
   | exact ih1 _ _
   | exact ih2 _ _
   | exact LeO.none _
   | refine LeO.ite ?_ ?_
   | refine LeO.bind ?_ (fun _ => ?_)
set_option maxHeartbeats 8000000 in
set_option maxRecDepth 100000 in
theorem busbarref5_Objects.calls (k : Nat) (A0 : Option Addr) (c0 : Nat) (l0 : List (S50)) (r : Int) (w : World) (hr0 : Kd.C k50 w A0 l0.length l0) (hc0 : l0.length ≤ c0) (h : busbarref5_Objects.f k l0 = some r) :
  Calls Try.prog 25 #[.slice A0 l0.length c0] w fun e w' => e = .returned (.int .i64 r) ∧ Drawn0 w w' := by
 have HR0 := Aside0.mk hr0
 have HC0 := Aside0.mk hc0
 clear hr0 hc0
 have H : (busbarref5_Objects.l0 k l0 0) = some r := h
 clear h
 have H' := Aside0.mk H
 clear H
 go_enter Try.func25, Try.ntmps25
 go_wp2
 repeat (go_quiet (fail); try go_wp2)
 go_loopg [3] k (fun kq v3 w' => ∃ (x3_1 : Int), v3 = .int .i64 x3_1 ∧ Aside0 (busbarref5_Objects.l0 kq l0 x3_1 = some r) ∧ Aside0 (kq ≤ k) ∧ Drawn0 w w')
 case atStart => exact ⟨(0), (by first | rfl | (simp; done) | (simp [*]; done)), H', ⟨Nat.le_refl _⟩, by repeat (first | exact Drawn0.refl _ | apply Drawn0.step)⟩
 case round =>
  clear H'
  obtain ⟨x3_1, rfl, HA, HK1, ⟨m1, rfl⟩⟩ := hrel
  cases gk with
  | zero => exact absurd HA.out (by simp [busbarref5_Objects.l0])
  | succ k1 =>
   have H := HA.out
   clear HA
   simp only [busbarref5_Objects.l0] at H
   by_cases c2 : x3_1 < (l0.length : Int)
   ·
    rw [if_pos c2] at H
    have c2b0 : decide (x3_1 < (l0.length : Int)) = true := decide_eq_true c2
    clear c2
    by_cases c3 : 0 ≤ x3_1
    ·
     rw [if_pos c3] at H
     have c3b0 : decide (0 ≤ x3_1) = true := decide_eq_true c3
     clear c3
     replace H := Option.bind_eq_some_iff.mp H
     obtain ⟨t480, A40, H⟩ := H
     have A4 := Aside0.mk A40
     clear A40
     by_cases c5 : t480 = true
     ·
      subst c5
      have H1 : (if x3_1 > 0 then (if 0 ≤ (wrap64 (x3_1 - 1)) then (if (wrap64 (x3_1 - 1)) < (l0.length : Int) then (if ((rd_T50 l0 (wrap64 (x3_1 - 1))).f0) ≥ ((rd_T50 l0 x3_1).f0) then (some 1) else (busbarref5_Objects.l0 k1 l0 (wrap64 (x3_1 + 1)))) else (none)) else (none)) else (busbarref5_Objects.l0 k1 l0 (wrap64 (x3_1 + 1)))) = some r := by rw [if_pos rfl] at H; exact H
      clear H
      have H := H1
      clear H1
      by_cases c6 : x3_1 > 0
      ·
       rw [if_pos c6] at H
       have c6b0 : decide (0 < x3_1) = true := decide_eq_true c6
       clear c6
       obtain ⟨ji7, hji7⟩ : ∃ j_ : Int, (wrap64 (x3_1 - 1)) = j_ := ⟨_, rfl⟩
       replace H : (if 0 ≤ (ji7) then (if (ji7) < (l0.length : Int) then (if ((rd_T50 l0 (ji7)).f0) ≥ ((rd_T50 l0 x3_1).f0) then (some 1) else (busbarref5_Objects.l0 k1 l0 (wrap64 (x3_1 + 1)))) else (none)) else (none)) = some r := by first | (rw [hji7] at H; exact H) | (simp only [hji7] at H ⊢; exact H)
       (try rw [hji7] at A4)
       have hji7w : (IntKind.i64.wrap (x3_1 - 1)) = ji7 := (i64_w _).trans hji7
       by_cases c8 : 0 ≤ (ji7)
       ·
        rw [if_pos c8] at H
        have c8b0 : decide (0 ≤ (ji7)) = true := decide_eq_true c8
        clear c8
        by_cases c9 : (ji7) < (l0.length : Int)
        ·
         rw [if_pos c9] at H
         have c9b0 : decide ((ji7) < (l0.length : Int)) = true := decide_eq_true c9
         clear c9
         by_cases c10 : ((rd_T50 l0 (ji7)).f0) ≥ ((rd_T50 l0 x3_1).f0)
         ·
          rw [if_pos c10] at H
          have c10b0 : decide (((rd_T50 l0 x3_1).f0) ≤ ((rd_T50 l0 (ji7)).f0)) = true := decide_eq_true c10
          clear c10
          obtain rfl := Option.some.inj H
          have p479 : 0 ≤ (x3_1 : Int) := of_decide_eq_true (by first | (with_reducible assumption) | assumption)
          have q479 : x3_1 < (l0.length : Int) := of_decide_eq_true (by first | (with_reducible assumption) | assumption)
          obtain ⟨ad479, e479, hx479_0, hx479_1⟩ := at_T50 HR0.out x3_1 p479 q479
          cases e479
          replace p479 := eq_true p479
          replace q479 := eq_true q479
          go_wp2_with (fail)
          repeat (go_quiet (first | (go_at_call 47; (with_reducible refine (busbarref5_byteful.calls ((rd_T50 l0 x3_1).f0) true _ A4.out).mono ?_); rintro e w' ⟨rfl, ⟨nd, rfl⟩⟩; (try first | exact ⟨rfl, _, World.drewN_drewN _ _ _⟩ | exact ⟨rfl, _, Eq.trans (World.drewN_drewN _ _ _) (congrArg (World.drewN _) (Nat.add_assoc _ _ _))⟩); have p481 : 0 ≤ ((ji7) : Int) := of_decide_eq_true (by first | (with_reducible assumption) | assumption); have q481 : (ji7) < (l0.length : Int) := of_decide_eq_true (by first | (with_reducible assumption) | assumption); obtain ⟨ad481, e481, hx481_0, hx481_1⟩ := at_T50 HR0.out (ji7) p481 q481; obtain rfl : ad479 = ad481 := (by injection e481); replace p481 := eq_true p481; replace q481 := eq_true q481; have p482 : 0 ≤ (x3_1 : Int) := of_decide_eq_true (by first | (with_reducible assumption) | assumption); have q482 : x3_1 < (l0.length : Int) := of_decide_eq_true (by first | (with_reducible assumption) | assumption); obtain ⟨ad482, e482, hx482_0, hx482_1⟩ := at_T50 HR0.out x3_1 p482 q482; obtain rfl : ad479 = ad482 := (by injection e482); replace p482 := eq_true p482; replace q482 := eq_true q482)); try go_wp2_with (fail))
          go_ret
          exact ⟨by first | rfl | (simp; done) | (simp only [← hji7] <;> (first | rfl | simp)) | (simp [*]; done), by repeat (first | exact Drawn0.refl _ | apply Drawn0.step)⟩
         ·
          rw [if_neg c10] at H
          have c10b0 : decide (((rd_T50 l0 x3_1).f0) ≤ ((rd_T50 l0 (ji7)).f0)) = false := decide_eq_false c10
          clear c10
          have H' := Aside0.mk H
          clear H
          have p479 : 0 ≤ (x3_1 : Int) := of_decide_eq_true (by first | (with_reducible assumption) | assumption)
          have q479 : x3_1 < (l0.length : Int) := of_decide_eq_true (by first | (with_reducible assumption) | assumption)
          obtain ⟨ad479, e479, hx479_0, hx479_1⟩ := at_T50 HR0.out x3_1 p479 q479
          cases e479
          replace p479 := eq_true p479
          replace q479 := eq_true q479
          go_wp2_with (fail)
          repeat (go_quiet (first | (go_at_call 47; (with_reducible refine (busbarref5_byteful.calls ((rd_T50 l0 x3_1).f0) true _ A4.out).mono ?_); rintro e w' ⟨rfl, ⟨nd, rfl⟩⟩; (try first | exact ⟨rfl, _, World.drewN_drewN _ _ _⟩ | exact ⟨rfl, _, Eq.trans (World.drewN_drewN _ _ _) (congrArg (World.drewN _) (Nat.add_assoc _ _ _))⟩); have p481 : 0 ≤ ((ji7) : Int) := of_decide_eq_true (by first | (with_reducible assumption) | assumption); have q481 : (ji7) < (l0.length : Int) := of_decide_eq_true (by first | (with_reducible assumption) | assumption); obtain ⟨ad481, e481, hx481_0, hx481_1⟩ := at_T50 HR0.out (ji7) p481 q481; obtain rfl : ad479 = ad481 := (by injection e481); replace p481 := eq_true p481; replace q481 := eq_true q481; have p482 : 0 ≤ (x3_1 : Int) := of_decide_eq_true (by first | (with_reducible assumption) | assumption); have q482 : x3_1 < (l0.length : Int) := of_decide_eq_true (by first | (with_reducible assumption) | assumption); obtain ⟨ad482, e482, hx482_0, hx482_1⟩ := at_T50 HR0.out x3_1 p482 q482; obtain rfl : ad479 = ad482 := (by injection e482); replace p482 := eq_true p482; replace q482 := eq_true q482)); try go_wp2_with (fail))
          go_roundg k1
          case measure => have := HK1.out; omega
          case rel => exact ⟨(wrap64 (x3_1 + 1)), (by first | rfl | (simp; done) | (simp [*]; done)), H', ⟨by have := HK1.out; omega⟩, by repeat (first | exact Drawn0.refl _ | apply Drawn0.step)⟩
        ·
         rw [if_neg c9] at H
         exact absurd H (by simp)
       ·
        rw [if_neg c8] at H
        exact absurd H (by simp)
      ·
       rw [if_neg c6] at H
       have c6b0 : decide (0 < x3_1) = false := decide_eq_false c6
       clear c6
       have H' := Aside0.mk H
       clear H
       have p479 : 0 ≤ (x3_1 : Int) := of_decide_eq_true (by first | (with_reducible assumption) | assumption)
       have q479 : x3_1 < (l0.length : Int) := of_decide_eq_true (by first | (with_reducible assumption) | assumption)
       obtain ⟨ad479, e479, hx479_0, hx479_1⟩ := at_T50 HR0.out x3_1 p479 q479
       cases e479
       replace p479 := eq_true p479
       replace q479 := eq_true q479
       go_wp2_with (fail)
       repeat (go_quiet (first | (go_at_call 47; (with_reducible refine (busbarref5_byteful.calls ((rd_T50 l0 x3_1).f0) true _ A4.out).mono ?_); rintro e w' ⟨rfl, ⟨nd, rfl⟩⟩; (try first | exact ⟨rfl, _, World.drewN_drewN _ _ _⟩ | exact ⟨rfl, _, Eq.trans (World.drewN_drewN _ _ _) (congrArg (World.drewN _) (Nat.add_assoc _ _ _))⟩))); try go_wp2_with (fail))
       go_roundg k1
       case measure => have := HK1.out; omega
       case rel => exact ⟨(wrap64 (x3_1 + 1)), (by first | rfl | (simp; done) | (simp [*]; done)), H', ⟨by have := HK1.out; omega⟩, by repeat (first | exact Drawn0.refl _ | apply Drawn0.step)⟩
     ·
      replace c5 := Bool.eq_false_iff.mpr c5
      subst c5
      have H1 : (some 1) = some r := by rw [if_neg (show ¬ (false = true) by decide)] at H; exact H
      clear H
      have H := H1
      clear H1
      obtain rfl := Option.some.inj H
      have p479 : 0 ≤ (x3_1 : Int) := of_decide_eq_true (by first | (with_reducible assumption) | assumption)
      have q479 : x3_1 < (l0.length : Int) := of_decide_eq_true (by first | (with_reducible assumption) | assumption)
      obtain ⟨ad479, e479, hx479_0, hx479_1⟩ := at_T50 HR0.out x3_1 p479 q479
      cases e479
      replace p479 := eq_true p479
      replace q479 := eq_true q479
      go_wp2_with (fail)
      repeat (go_quiet (first | (go_at_call 47; (with_reducible refine (busbarref5_byteful.calls ((rd_T50 l0 x3_1).f0) false _ A4.out).mono ?_); rintro e w' ⟨rfl, ⟨nd, rfl⟩⟩; (try first | exact ⟨rfl, _, World.drewN_drewN _ _ _⟩ | exact ⟨rfl, _, Eq.trans (World.drewN_drewN _ _ _) (congrArg (World.drewN _) (Nat.add_assoc _ _ _))⟩))); try go_wp2_with (fail))
      go_ret
      exact ⟨by first | rfl | (simp; done) | (simp [*]; done), by repeat (first | exact Drawn0.refl _ | apply Drawn0.step)⟩
    ·
     rw [if_neg c3] at H
     exact absurd H (by simp)
   ·
    rw [if_neg c2] at H
    have c2b0 : decide (x3_1 < (l0.length : Int)) = false := decide_eq_false c2
    clear c2
    have H' := Aside0.mk H
    clear H
    go_wp2
    repeat (go_quiet (fail); try go_wp2)
    go_loopg [4] k1 (fun kq v4 w' => ∃ (x4_2 : Int), v4 = .int .i64 x4_2 ∧ Aside0 (busbarref5_Objects.l1 kq l0 x4_2 = some r) ∧ Aside0 (kq ≤ k1) ∧ Drawn0 w w')
    case atStart => exact ⟨(0), (by first | rfl | (simp; done) | (simp [*]; done)), H', ⟨Nat.le_refl _⟩, by repeat (first | exact Drawn0.refl _ | apply Drawn0.step)⟩
    case round =>
     clear H'
     (try clear c2b0)
     obtain ⟨x4_2, rfl, HA, HK2, ⟨m2, rfl⟩⟩ := hrel
     cases gk with
     | zero => exact absurd HA.out (by simp [busbarref5_Objects.l1])
     | succ k2 =>
      have H := HA.out
      clear HA
      simp only [busbarref5_Objects.l1] at H
      by_cases c11 : x4_2 < (l0.length : Int)
      ·
       rw [if_pos c11] at H
       have c11b0 : decide (x4_2 < (l0.length : Int)) = true := decide_eq_true c11
       clear c11
       by_cases c12 : 0 ≤ x4_2
       ·
        rw [if_pos c12] at H
        have c12b0 : decide (0 ≤ x4_2) = true := decide_eq_true c12
        clear c12
        by_cases c13 : (((rd_T50 l0 x4_2).f1).size : Int) > 244
        ·
         rw [if_pos c13] at H
         have c13b0 : decide (244 < (((rd_T50 l0 x4_2).f1).size : Int)) = true := decide_eq_true c13
         have c13b1 : decide (244 < ((rd_T50 l0 x4_2).f1).size) = true := decide_eq_true (by omega)
         clear c13
         obtain rfl := Option.some.inj H
         have p483 : 0 ≤ (x4_2 : Int) := of_decide_eq_true (by first | (with_reducible assumption) | assumption)
         have q483 : x4_2 < (l0.length : Int) := of_decide_eq_true (by first | (with_reducible assumption) | assumption)
         obtain ⟨ad483, e483, hx483_0, hx483_1⟩ := at_T50 HR0.out x4_2 p483 q483
         cases e483
         replace p483 := eq_true p483
         replace q483 := eq_true q483
         go_wp2
         repeat (go_quiet (fail); try go_wp2)
         go_ret
         exact ⟨by first | rfl | (simp; done) | (simp [*]; done), by repeat (first | exact Drawn0.refl _ | apply Drawn0.step)⟩
        ·
         rw [if_neg c13] at H
         have c13b0 : decide (244 < (((rd_T50 l0 x4_2).f1).size : Int)) = false := decide_eq_false c13
         have c13b1 : decide (244 < ((rd_T50 l0 x4_2).f1).size) = false := decide_eq_false (by omega)
         clear c13
         have H' := Aside0.mk H
         clear H
         have p483 : 0 ≤ (x4_2 : Int) := of_decide_eq_true (by first | (with_reducible assumption) | assumption)
         have q483 : x4_2 < (l0.length : Int) := of_decide_eq_true (by first | (with_reducible assumption) | assumption)
         obtain ⟨ad483, e483, hx483_0, hx483_1⟩ := at_T50 HR0.out x4_2 p483 q483
         cases e483
         replace p483 := eq_true p483
         replace q483 := eq_true q483
         go_wp2
         repeat (go_quiet (fail); try go_wp2)
         go_roundg k2
         case measure => have := HK1.out; have := HK2.out; omega
         case rel => exact ⟨(wrap64 (x4_2 + 1)), (by first | rfl | (simp; done) | (simp [*]; done)), H', ⟨by have := HK1.out; have := HK2.out; omega⟩, by repeat (first | exact Drawn0.refl _ | apply Drawn0.step)⟩
       ·
        rw [if_neg c12] at H
        exact absurd H (by simp)
      ·
       rw [if_neg c11] at H
       have c11b0 : decide (x4_2 < (l0.length : Int)) = false := decide_eq_false c11
       clear c11
       have H' := Aside0.mk H
       clear H
       go_wp2
       repeat (go_quiet (fail); try go_wp2)
       go_loopg [5] k2 (fun kq v5 w' => ∃ (x5_3 : Int), v5 = .int .i64 x5_3 ∧ Aside0 (busbarref5_Objects.l2 kq l0 x5_3 = some r) ∧ Aside0 (kq ≤ k2) ∧ Drawn0 w w')
       case atStart => exact ⟨(0), (by first | rfl | (simp; done) | (simp [*]; done)), H', ⟨Nat.le_refl _⟩, by repeat (first | exact Drawn0.refl _ | apply Drawn0.step)⟩
       case round =>
        clear H'
        (try clear c11b0)
        obtain ⟨x5_3, rfl, HA, HK3, ⟨m3, rfl⟩⟩ := hrel
        cases gk with
        | zero => exact absurd HA.out (by simp [busbarref5_Objects.l2])
        | succ k3 =>
         have H := HA.out
         clear HA
         simp only [busbarref5_Objects.l2] at H
         by_cases c14 : x5_3 < 3
         ·
          rw [if_pos c14] at H
          have c14b0 : decide (x5_3 < 3) = true := decide_eq_true c14
          clear c14
          by_cases c15 : x5_3 ≥ (l0.length : Int)
          ·
           rw [if_pos c15] at H
           have c15b0 : decide ((l0.length : Int) ≤ x5_3) = true := decide_eq_true c15
           clear c15
           obtain rfl := Option.some.inj H
           go_wp2
           repeat (go_quiet (fail); try go_wp2)
           go_ret
           exact ⟨by first | rfl | (simp; done) | (simp [*]; done), by repeat (first | exact Drawn0.refl _ | apply Drawn0.step)⟩
          ·
           rw [if_neg c15] at H
           have c15b0 : decide ((l0.length : Int) ≤ x5_3) = false := decide_eq_false c15
           clear c15
           by_cases c16 : 0 ≤ x5_3
           ·
            rw [if_pos c16] at H
            have c16b0 : decide (0 ≤ x5_3) = true := decide_eq_true c16
            clear c16
            by_cases c17 : x5_3 < (l0.length : Int)
            ·
             rw [if_pos c17] at H
             have c17b0 : decide (x5_3 < (l0.length : Int)) = true := decide_eq_true c17
             clear c17
             by_cases c18 : ((rd_T50 l0 x5_3).f0) = x5_3
             ·
              rw [if_pos c18] at H
              have c18b0 : (((rd_T50 l0 x5_3).f0) == x5_3) = true := beq_iff_eq.mpr c18
              have c18b1 : (((rd_T50 l0 x5_3).f0) != x5_3) = false := bne_eq_false_iff_eq.mpr c18
              clear c18
              have H' := Aside0.mk H
              clear H
              have p484 : 0 ≤ (x5_3 : Int) := of_decide_eq_true (by first | (with_reducible assumption) | assumption)
              have q484 : x5_3 < (l0.length : Int) := of_decide_eq_true (by first | (with_reducible assumption) | assumption)
              obtain ⟨ad484, e484, hx484_0, hx484_1⟩ := at_T50 HR0.out x5_3 p484 q484
              cases e484
              replace p484 := eq_true p484
              replace q484 := eq_true q484
              go_wp2
              repeat (go_quiet (fail); try go_wp2)
              go_roundg k3
              case measure => have := HK1.out; have := HK2.out; have := HK3.out; omega
              case rel => exact ⟨(wrap64 (x5_3 + 1)), (by first | rfl | (simp; done) | (simp [*]; done)), H', ⟨by have := HK1.out; have := HK2.out; have := HK3.out; omega⟩, by repeat (first | exact Drawn0.refl _ | apply Drawn0.step)⟩
             ·
              rw [if_neg c18] at H
              have c18b0 : (((rd_T50 l0 x5_3).f0) == x5_3) = false := beq_eq_false_iff_ne.mpr c18
              have c18b1 : (((rd_T50 l0 x5_3).f0) != x5_3) = true := bne_iff_ne.mpr c18
              obtain rfl := Option.some.inj H
              have p484 : 0 ≤ (x5_3 : Int) := of_decide_eq_true (by first | (with_reducible assumption) | assumption)
              have q484 : x5_3 < (l0.length : Int) := of_decide_eq_true (by first | (with_reducible assumption) | assumption)
              obtain ⟨ad484, e484, hx484_0, hx484_1⟩ := at_T50 HR0.out x5_3 p484 q484
              cases e484
              replace p484 := eq_true p484
              replace q484 := eq_true q484
              go_wp2
              repeat (go_quiet (fail); try go_wp2)
              go_ret
              exact ⟨by first | rfl | (simp; done) | (simp [*]; done), by repeat (first | exact Drawn0.refl _ | apply Drawn0.step)⟩
            ·
             rw [if_neg c17] at H
             exact absurd H (by simp)
           ·
            rw [if_neg c16] at H
            exact absurd H (by simp)
         ·
          rw [if_neg c14] at H
          have c14b0 : decide (x5_3 < 3) = false := decide_eq_false c14
          clear c14
          obtain rfl := Option.some.inj H
          go_wp2
          repeat (go_quiet (fail); try go_wp2)
          go_ret
          exact ⟨by first | rfl | (simp; done) | (simp [*]; done), by repeat (first | exact Drawn0.refl _ | apply Drawn0.step)⟩
end Go.Proofs.Ytjlbgopgeepiaaa.PConf
