/- Words and walks for TopSkew (made of the session's own texts; each part by itself). -/
import Derived.Deep.DeepCutAuto
import Derived.Deep.DeepMust
import Derived.Deep.RegionLaw
import Derived.Test.YtlalbohhopmpdaaGreatZTopSkew28
set_option maxRecDepth 100000
set_option maxHeartbeats 8000000
set_option linter.unusedVariables false
set_option linter.unusedSimpArgs false
namespace Go.Proofs.YtlalbohhopmpdaaGreat.Top
open Go.RowKit Go.Proofs.YtlalbohhopmpdaaGreat.PTop Go.YW.PrintWords Go.YW.PrintLast Go.YW.PrintMore Go.Proofs.YtlalbohhopmpdaaGreat.Num
open Go.Proofs.YtlalbohhopmpdaaGreat.Ring (yM yw yN xZ)
open Go.Proofs.YtlalbohhopmpdaaGreat.LemHeadTop Go.Proofs.YtlalbohhopmpdaaGreat.LemAduTop
attribute [local go_sem] zm zu
theorem zbR (w : World) (a b : Int) : Calls Tryz.prog 3 #[.int .i64 a, .int .i64 b, .bool false, .bool false] w fun e w' => e = .returned (.bool true) ∧ Below w.heap.size w w' := by
  have hu41 := Tryz.underlying41
  have hu37 := Tryz.underlying37
  have hu39 := Tryz.underlying39
  have hOrd1 := fun w : World => ji w 1 (by omega)
  have hOrd2 := fun w : World => ji w 2 (by omega)
  simp only [qd] at hOrd1 hOrd2
  have hbr := za8
  have hbw_ := zbC
  go_enter Tryz.func3, Tryz.ntmps3
  go_wp2_with (fail)
  refine (kR _).mono ?_
  rintro e w1 ⟨rfl, hb1⟩
  have B1 := hQ hb1
  clear hb1
  go_wp2_with (fail)
  refine (Xd _).mono ?_
  rintro e w2 ⟨v0, v1, v12, rfl, h0, h1, h2, hb2⟩
  obtain ⟨Am, cm, rfl⟩ := Kd.zX h0
  obtain ⟨Ag, cg, rfl⟩ := Kd.zX h1
  obtain ⟨Ao, co, rfl⟩ := Kd.zX h2
  have hO := kL w2 Am Ag Ao cm cg co (Kd.zw h0).2.2 (Kd.zw h0).2.1 (Kd.zw h1).2.2 (Kd.zw h1).2.1 (Kd.zw h2).2.2 (Kd.zw h2).2.1
  have B2 := hQ (ze B1.out B1.out.size hb2)
  clear h0 h1 h2 hb2
  go_wp2_with (fail)
  refine hO.mono ?_
  rintro e w3 ⟨tb, rfl, gb, dk, ix, L, hT, hx, hb3⟩
  have T3 := hQ hT
  have HX := hQ hx
  have E3 := hQ hb3
  clear hT hx hb3 hO
  go_wp2_with (fail)
  refine (zG.calls a 8 (a % 8) _ (Go.Proofs.YtlalbohhopmpdaaGreat.LemWithinTop.within_eq a 8 (by omega) (by omega))).mono ?_
  rintro e w4 ⟨rfl, hd4⟩
  have T4 := hQ (T3.out.below hd4.below)
  have E4 := hQ (ze E3.out E3.out.size hd4.below)
  clear hd4
  go_wp2_with (fail)
  refine (zG.calls b 8 (b % 8) _ (Go.Proofs.YtlalbohhopmpdaaGreat.LemWithinTop.within_eq b 8 (by omega) (by omega))).mono ?_
  rintro e w5 ⟨rfl, hd5⟩
  have T5 := hQ (T4.out.below hd5.below)
  have E5 := hQ (ze E4.out E4.out.size hd5.below)
  clear hd5
  go_wp2_with (fail)
  obtain ⟨x, hx⟩ : ∃ x, x = 24 + a % 8 := ⟨_, rfl⟩
  obtain ⟨y, hy⟩ : ∃ y, y = 32 + b % 8 := ⟨_, rfl⟩
  rw [← hx, ← hy]
  have HX2 := hQ (show (24 ≤ x ∧ x < 32) ∧ (32 ≤ y ∧ y < 40) by omega)
  clear hx hy
  refine wp_loop_rounds 3 ?_
  rw [rounds_succ]
  go_wp2_with (fail)
  refine (hOrd1 _).mono ?_
  rintro e o10 ⟨rfl, hbw⟩
  have T10 := hQ (T5.out.below hbw)
  have E10 := hQ (ze E5.out E5.out.size hbw)
  clear hbw
  go_wp2_with (first | (refine wpList_buildTo rfl 39 _ rfl _ rfl (c39 x y 7) (by kernel_rfl) ?_) | (refine yY rfl 39 _ _ rfl rfl (c39 x y 7) _ rfl rfl (by kernel_rfl) rfl (by kernel_rfl) ?_))
  refine wp_loop_rounds 4 ?_
  have hba := zn (Below.refl o10.heap.size o10) (.cells (c39 x y 7) 39)
  have T11 := hQ (T10.out.below hba)
  have E11 := hQ (ze E10.out E10.out.size hba)
  have ZA := hQ (zi o10 (.cells (c39 x y 7) 39))
  clear hba
  generalize hW : o10.alloc (.cells (c39 x y 7) 39) = W11 at *
  clear hW
  rw [rounds_succ]
  obtain ⟨k0, k1, k2, k3, k4, k5, k6, k7, k8, k9, k10, k11⟩ := JG ZA.out
  go_wp2_with (fail)
  clear k0 k1 k2 k3 k4 k5 k6 k7 k8 k9 k10 k11
  have hs : zR _ _ 4 _ _ _ _ _ _ _ _ _ _ _ _ _ _ _ _ _ := t1 T11.out HX.out.1
  simp only [zR, zT, zI, va] at hs
  refine hs.mono ?_
  clear hs
  rintro e v12 ⟨A12, q12, rfl, hr, hT, hc⟩
  have hE := ze (hc.below E11.out) (Nat.le_trans E11.out.size hc.size) (zn (Below.refl _ _) (.cells #[.int .i64 6, .int .i64 0, .slice none 0 0, .slice A12 0 q12, .int .i64 100, .int .i64 0, .int .u16 1, .int .u16 0, .int .u16 0, .int .i64 0, .int .i64 0, .bool false, .int .i64 0, .slice none 0 0] 41))
  have hbw : Below v12.heap.size v12 (v12.alloc (.cells #[.int .i64 6, .int .i64 0, .slice none 0 0, .slice A12 0 q12, .int .i64 100, .int .i64 0, .int .u16 1, .int .u16 0, .int .u16 0, .int .i64 0, .int .i64 0, .bool false, .int .i64 0, .slice none 0 0] 41)) := (Below.refl _ _).alloc (Nat.le_refl _) _
  replace ZA := hQ (zb (hc.cell ZA.out (by decide)) hbw)
  have T12 := hQ (hT.below hbw)
  have E12 := hQ hE
  clear hr hT hc hE hbw
  go_wp2_with (fail)
  rw [rounds_succ]
  obtain ⟨k12, k13, k14, k15, k16, k17, k18, k19, k20, k21, k22, k23⟩ := JC ZA.out
  go_wp2_with (fail)
  clear k12 k13 k14 k15 k16 k17 k18 k19 k20 k21 k22 k23
  have hs : zR _ _ 6 _ _ _ _ _ _ _ _ _ _ _ _ _ _ _ _ _ := t2 (a := x) T12.out (.inr (.inr (by have := HX2.out; omega))) HX.out.2.1
  simp only [zR, zT, zI, va] at hs
  refine hs.mono ?_
  clear hs
  rintro e v13 ⟨A13, q13, rfl, hr, hT, hc⟩
  have hE := ze (hc.below E12.out) (Nat.le_trans E12.out.size hc.size) (zn (Below.refl _ _) (.cells #[.int .i64 3, .int .i64 0, .slice none 0 0, .slice A13 1 q13, .int .i64 0, .int .i64 0, .int .u16 0, .int .u16 0, .int .u16 0, .int .i64 0, .int .i64 0, .bool false, .int .i64 0, .slice none 0 0] 41))
  have hbw : Below v13.heap.size v13 (v13.alloc (.cells #[.int .i64 3, .int .i64 0, .slice none 0 0, .slice A13 1 q13, .int .i64 0, .int .i64 0, .int .u16 0, .int .u16 0, .int .u16 0, .int .i64 0, .int .i64 0, .bool false, .int .i64 0, .slice none 0 0] 41)) := (Below.refl _ _).alloc (Nat.le_refl _) _
  replace ZA := hQ (zb (hc.cell ZA.out (by decide)) hbw)
  have T13 := hQ (hT.below hbw)
  have E13 := hQ hE
  clear hr hT hc hE hbw
  go_wp2_with (fail)
  rw [rounds_succ]
  obtain ⟨k24, k25, k26, k27, k28, k29, k30, k31, k32, k33, k34, k35⟩ := JA ZA.out
  go_wp2_with (fail)
  clear k24 k25 k26 k27 k28 k29 k30 k31 k32 k33 k34 k35
  have hs : zR _ _ 8 _ _ _ _ _ _ _ _ _ _ _ _ _ _ _ _ _ := t3 (a := x) (b := y) T13.out (.inr (.inr (by have := HX2.out; omega))) HX.out.2.2.1
  simp only [zR, zT, zI, va] at hs
  refine hs.mono ?_
  clear hs
  rintro e v14 ⟨A14, q14, rfl, hr, hT, hc⟩
  have hE := ze (hc.below E13.out) (Nat.le_trans E13.out.size hc.size) (zn (Below.refl _ _) (.cells #[.int .i64 6, .int .i64 0, .slice none 0 0, .slice A14 0 q14, .int .i64 y, .int .i64 0, .int .u16 7, .int .u16 0, .int .u16 0, .int .i64 0, .int .i64 0, .bool false, .int .i64 0, .slice none 0 0] 41))
  have hbw : Below v14.heap.size v14 (v14.alloc (.cells #[.int .i64 6, .int .i64 0, .slice none 0 0, .slice A14 0 q14, .int .i64 y, .int .i64 0, .int .u16 7, .int .u16 0, .int .u16 0, .int .i64 0, .int .i64 0, .bool false, .int .i64 0, .slice none 0 0] 41)) := (Below.refl _ _).alloc (Nat.le_refl _) _
  replace ZA := hQ (zb (hc.cell ZA.out (by decide)) hbw)
  have T14 := hQ (hT.below hbw)
  have E14 := hQ hE
  clear hr hT hc hE hbw
  go_wp2_with (fail)
  clear ZA
  rw [rounds_succ]
  go_wp2_with (fail)
  rw [rounds_succ]
  go_wp2_with (fail)
  refine (hOrd1 _).mono ?_
  rintro e o15 ⟨rfl, hbw⟩
  have T15 := hQ (T14.out.below hbw)
  have E15 := hQ (ze E14.out E14.out.size hbw)
  clear hbw
  go_wp2_with (first | (refine wpList_buildTo rfl 39 _ rfl _ rfl (c39 0 x 8) (by kernel_rfl) ?_) | (refine yY rfl 39 _ _ rfl rfl (c39 0 x 8) _ rfl rfl (by kernel_rfl) rfl (by kernel_rfl) ?_))
  refine wp_loop_rounds 4 ?_
  have hba := zn (Below.refl o15.heap.size o15) (.cells (c39 0 x 8) 39)
  have T16 := hQ (T15.out.below hba)
  have E16 := hQ (ze E15.out E15.out.size hba)
  have ZA := hQ (zi o15 (.cells (c39 0 x 8) 39))
  clear hba
  generalize hW : o15.alloc (.cells (c39 0 x 8) 39) = W16 at *
  clear hW
  rw [rounds_succ]
  obtain ⟨k0, k1, k2, k3, k4, k5, k6, k7, k8, k9, k10, k11⟩ := JG ZA.out
  go_wp2_with (fail)
  clear k0 k1 k2 k3 k4 k5 k6 k7 k8 k9 k10 k11
  have hs : zR _ _ 12 _ _ _ _ _ _ _ _ _ _ _ _ _ _ _ _ _ := t4 (a := x) (b := y) T16.out HX.out.1
  simp only [zR, zT, zI, va] at hs
  refine hs.mono ?_
  clear hs
  rintro e v17 ⟨A17, q17, rfl, hr, hT, hc⟩
  have hE := ze (hc.below E16.out) (Nat.le_trans E16.out.size hc.size) (zn (Below.refl _ _) (.cells #[.int .i64 6, .int .i64 0, .slice none 0 0, .slice A17 0 q17, .int .i64 100, .int .i64 0, .int .u16 1, .int .u16 0, .int .u16 0, .int .i64 0, .int .i64 0, .bool false, .int .i64 0, .slice none 0 0] 41))
  have hbw : Below v17.heap.size v17 (v17.alloc (.cells #[.int .i64 6, .int .i64 0, .slice none 0 0, .slice A17 0 q17, .int .i64 100, .int .i64 0, .int .u16 1, .int .u16 0, .int .u16 0, .int .i64 0, .int .i64 0, .bool false, .int .i64 0, .slice none 0 0] 41)) := (Below.refl _ _).alloc (Nat.le_refl _) _
  replace ZA := hQ (zb (hc.cell ZA.out (by decide)) hbw)
  have T17 := hQ (hT.below hbw)
  have E17 := hQ hE
  clear hr hT hc hE hbw
  go_wp2_with (fail)
  rw [rounds_succ]
  obtain ⟨k12, k13, k14, k15, k16, k17, k18, k19, k20, k21, k22, k23⟩ := JC ZA.out
  go_wp2_with (fail)
  clear k12 k13 k14 k15 k16 k17 k18 k19 k20 k21 k22 k23
  have hs : zR _ _ 14 _ _ _ _ _ _ _ _ _ _ _ _ _ _ _ _ _ := t5 (a := x) (b := y) (z := 0) T17.out (.inl rfl) HX.out.2.1
  simp only [zR, zT, zI, va] at hs
  refine hs.mono ?_
  clear hs
  rintro e v18 ⟨A18, q18, rfl, hr, hT, hc⟩
  have hE := ze (hc.below E17.out) (Nat.le_trans E17.out.size hc.size) (zn (Below.refl _ _) (.cells #[.int .i64 3, .int .i64 0, .slice none 0 0, .slice A18 1 q18, .int .i64 0, .int .i64 0, .int .u16 0, .int .u16 0, .int .u16 0, .int .i64 0, .int .i64 0, .bool false, .int .i64 0, .slice none 0 0] 41))
  have hbw : Below v18.heap.size v18 (v18.alloc (.cells #[.int .i64 3, .int .i64 0, .slice none 0 0, .slice A18 1 q18, .int .i64 0, .int .i64 0, .int .u16 0, .int .u16 0, .int .u16 0, .int .i64 0, .int .i64 0, .bool false, .int .i64 0, .slice none 0 0] 41)) := (Below.refl _ _).alloc (Nat.le_refl _) _
  replace ZA := hQ (zb (hc.cell ZA.out (by decide)) hbw)
  have T18 := hQ (hT.below hbw)
  have E18 := hQ hE
  clear hr hT hc hE hbw
  go_wp2_with (fail)
  rw [rounds_succ]
  obtain ⟨k24, k25, k26, k27, k28, k29, k30, k31, k32, k33, k34, k35⟩ := JA ZA.out
  go_wp2_with (fail)
  clear k24 k25 k26 k27 k28 k29 k30 k31 k32 k33 k34 k35
  have hs : zR _ _ 16 _ _ _ _ _ _ _ _ _ _ _ _ _ _ _ _ _ := t6 (a := x) (b := y) (z := 0) T18.out (.inr (.inr (by have := HX2.out; omega))) HX.out.2.2.1
  simp only [zR, zT, zI, va] at hs
  refine hs.mono ?_
  clear hs
  rintro e v19 ⟨A19, q19, rfl, hr, hT, hc⟩
  have hE := ze (hc.below E18.out) (Nat.le_trans E18.out.size hc.size) (zn (Below.refl _ _) (.cells #[.int .i64 6, .int .i64 0, .slice none 0 0, .slice A19 0 q19, .int .i64 x, .int .i64 0, .int .u16 8, .int .u16 0, .int .u16 0, .int .i64 0, .int .i64 0, .bool false, .int .i64 0, .slice none 0 0] 41))
  have hbw : Below v19.heap.size v19 (v19.alloc (.cells #[.int .i64 6, .int .i64 0, .slice none 0 0, .slice A19 0 q19, .int .i64 x, .int .i64 0, .int .u16 8, .int .u16 0, .int .u16 0, .int .i64 0, .int .i64 0, .bool false, .int .i64 0, .slice none 0 0] 41)) := (Below.refl _ _).alloc (Nat.le_refl _) _
  replace ZA := hQ (zb (hc.cell ZA.out (by decide)) hbw)
  have T19 := hQ (hT.below hbw)
  have E19 := hQ hE
  clear hr hT hc hE hbw
  go_wp2_with (fail)
  clear ZA
  rw [rounds_succ]
  go_wp2_with (fail)
  rw [rounds_succ]
  go_wp2_with (fail)
  refine (hOrd2 _).mono ?_
  rintro e o20 ⟨rfl, hbw⟩
  have T20 := hQ (T19.out.below hbw)
  have E20 := hQ (ze E19.out E19.out.size hbw)
  clear hbw
  go_wp2_with (fail)
  have hs : zR _ _ 19 _ _ _ _ _ _ _ _ _ _ _ _ _ _ _ _ _ := t7 (a := x) (b := y) (z := 0) T20.out (.inr (.inr (by have := HX2.out; omega))) (.inr (.inr (by have := HX2.out; omega)))
  simp only [zR, zT, zI, va] at hs
  refine hs.mono ?_
  clear hs
  rintro e v21 ⟨A21, q21, rfl, hr, hT, hc⟩
  have hE := ze (hc.below E20.out) (Nat.le_trans E20.out.size hc.size) (zn (Below.refl _ _) (.cells #[.int .i64 6, .int .i64 0, .slice none 0 0, .slice A21 0 q21, .int .i64 100, .int .i64 0, .int .u16 2, .int .u16 0, .int .u16 0, .int .i64 0, .int .i64 0, .bool false, .int .i64 0, .slice none 0 0] 41))
  have hbw : Below v21.heap.size v21 (v21.alloc (.cells #[.int .i64 6, .int .i64 0, .slice none 0 0, .slice A21 0 q21, .int .i64 100, .int .i64 0, .int .u16 2, .int .u16 0, .int .u16 0, .int .i64 0, .int .i64 0, .bool false, .int .i64 0, .slice none 0 0] 41)) := (Below.refl _ _).alloc (Nat.le_refl _) _
  have T21 := hQ (hT.below hbw)
  have E21 := hQ hE
  have Zp := hQ (zi v21 (.cells #[.int .i64 6, .int .i64 0, .slice none 0 0, .slice A21 0 q21, .int .i64 100, .int .i64 0, .int .u16 2, .int .u16 0, .int .u16 0, .int .i64 0, .int .i64 0, .bool false, .int .i64 0, .slice none 0 0] 41))
  clear hr hT hc hE hbw
  go_wp2_with (fail)
  refine (hOrd2 _).mono ?_
  rintro e o22 ⟨rfl, hbw⟩
  have T22 := hQ (T21.out.below hbw)
  have E22 := hQ (ze E21.out E21.out.size hbw)
  replace Zp := hQ (zb Zp.out hbw)
  clear hbw
  go_wp2_with (fail)
  have hs : zR _ _ 22 _ _ _ _ _ _ _ _ _ _ _ _ _ _ _ _ _ := t8n (a := x) (b := y) (z := 0) T22.out (.inr (.inr (by have := HX2.out; omega))) (.inl rfl) (by have := HX2.out; omega)
  simp only [zR, zT, zI, va] at hs
  refine hs.mono ?_
  clear hs
  rintro e v23 ⟨A23, q23, rfl, hr, hT, hc⟩
  have hE := ze (hc.below E22.out) (Nat.le_trans E22.out.size hc.size) (zn (Below.refl _ _) (.cells #[.int .i64 6, .int .i64 0, .slice none 0 0, .slice A23 0 q23, .int .i64 100, .int .i64 0, .int .u16 2, .int .u16 0, .int .u16 0, .int .i64 0, .int .i64 0, .bool false, .int .i64 0, .slice none 0 0] 41))
  have hbw : Below v23.heap.size v23 (v23.alloc (.cells #[.int .i64 6, .int .i64 0, .slice none 0 0, .slice A23 0 q23, .int .i64 100, .int .i64 0, .int .u16 2, .int .u16 0, .int .u16 0, .int .i64 0, .int .i64 0, .bool false, .int .i64 0, .slice none 0 0] 41)) := (Below.refl _ _).alloc (Nat.le_refl _) _
  replace Zp := hQ (zb (hc.cell Zp.out (by decide)) hbw)
  have T23 := hQ (hT.below hbw)
  have E23 := hQ hE
  have Zq := hQ (zi v23 (.cells #[.int .i64 6, .int .i64 0, .slice none 0 0, .slice A23 0 q23, .int .i64 100, .int .i64 0, .int .u16 2, .int .u16 0, .int .u16 0, .int .i64 0, .int .i64 0, .bool false, .int .i64 0, .slice none 0 0] 41))
  clear hr hT hc hE hbw
  obtain ⟨zp0, zp1, zp2, zp3, zp4, zp5, zp6, zp7, zp8, zp9, zp10, zp11, zp12, zp13⟩ := yn Zp.out
  obtain ⟨zq0, zq1, zq2, zq3, zq4, zq5, zq6, zq7, zq8, zq9, zq10, zq11, zq12, zq13⟩ := yn Zq.out
  go_wp2_with (fail)
  clear zp0 zp1 zp2 zp3 zp4 zp5 zp6 zp7 zp8 zp9 zp10 zp11 zp12 zp13
  clear zq0 zq1 zq2 zq3 zq4 zq5 zq6 zq7 zq8 zq9 zq10 zq11 zq12 zq13
  have hs : zR _ _ 23 _ _ _ _ _ _ _ _ _ _ _ _ _ _ _ _ _ := t9n (a := x) (b := y) (z := 0) T23.out (by have := HX2.out; omega)
  simp only [zR, zT, zI, va] at hs
  refine hs.mono ?_
  clear hs
  rintro e v24 ⟨A24, q24, rfl, hr, hT, hc⟩
  have hE := ze (hc.below E23.out) (Nat.le_trans E23.out.size hc.size) (zn (Below.refl _ _) (.cells #[.int .i64 3, .int .i64 0, .slice none 0 0, .slice A24 2 q24, .int .i64 0, .int .i64 0, .int .u16 0, .int .u16 0, .int .u16 0, .int .i64 0, .int .i64 0, .bool false, .int .i64 0, .slice none 0 0] 41))
  have hbw : Below v24.heap.size v24 (v24.alloc (.cells #[.int .i64 3, .int .i64 0, .slice none 0 0, .slice A24 2 q24, .int .i64 0, .int .i64 0, .int .u16 0, .int .u16 0, .int .u16 0, .int .i64 0, .int .i64 0, .bool false, .int .i64 0, .slice none 0 0] 41)) := (Below.refl _ _).alloc (Nat.le_refl _) _
  replace Zp := hQ (zb (hc.cell Zp.out (by decide)) hbw)
  replace Zq := hQ (zb (hc.cell Zq.out (by decide)) hbw)
  have T24 := hQ (hT.below hbw)
  have E24 := hQ hE
  have Zs := hQ (zi v24 (.cells #[.int .i64 3, .int .i64 0, .slice none 0 0, .slice A24 2 q24, .int .i64 0, .int .i64 0, .int .u16 0, .int .u16 0, .int .u16 0, .int .i64 0, .int .i64 0, .bool false, .int .i64 0, .slice none 0 0] 41))
  have Rs := hQ (Kd.zy hr hbw)
  clear hr hT hc hE hbw
  obtain ⟨gs, eAs, gc0, gc1⟩ := QJ Rs.out
  subst eAs
  obtain ⟨zq0, zq1, zq2, zq3, zq4, zq5, zq6, zq7, zq8, zq9, zq10, zq11, zq12, zq13⟩ := yn Zq.out
  obtain ⟨zs0, zs1, zs2, zs3, zs4, zs5, zs6, zs7, zs8, zs9, zs10, zs11, zs12, zs13⟩ := yn Zs.out
  go_wp2_with (fail)
  exact bodyPost_ret (v := .bool true) (by simp [results, Tryz.results3, go_sem]) rfl ⟨rfl, ze B2.out B2.out.size E24.out⟩
end Go.Proofs.YtlalbohhopmpdaaGreat.Top
