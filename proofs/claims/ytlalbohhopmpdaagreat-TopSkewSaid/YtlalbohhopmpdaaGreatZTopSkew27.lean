/- Words and walks for TopSkew (made of the session's own texts; each part by itself). -/
import Derived.Deep.DeepCutAuto
import Derived.Deep.DeepMust
import Derived.Deep.RegionLaw
import Derived.Test.YtlalbohhopmpdaaGreatZTopSkew26
set_option maxRecDepth 100000
set_option maxHeartbeats 8000000
set_option linter.unusedVariables false
set_option linter.unusedSimpArgs false
namespace Go.Proofs.YtlalbohhopmpdaaGreat.Top
open Go.RowKit Go.Proofs.YtlalbohhopmpdaaGreat.PTop Go.YW.PrintWords Go.YW.PrintLast Go.YW.PrintMore Go.Proofs.YtlalbohhopmpdaaGreat.Num
attribute [local go_sem] zm zu
def z30 : Array Value := #[.slice none 0 0, .slice none 0 0, .int .i64 0, .int .i64 0, .int .i64 0, .int .i64 0, .int .i64 0, .int .i64 0, .int .i64 0, .int .i64 0, .int .i64 0, .int .u64 0, .slice none 0 0]
theorem Zg {w w1 : World} (hg : w.grownBy w1 none) : Below w.heap.size w w1 := ⟨hg.os, hg.tape, hg.output, hg.size, fun k hk => hg.block k hk (by simp)⟩
structure CfR (w0 : World) (g a b d ca cb : Nat) (cs : Array Value) (w : World) : Prop where
  s : CfS w0 g cs w
  t : CfS w0 w0.heap.size z30 w
  m : Kd.R k78 78 w w0.heap.size (fun _ => True) (.slice (some ⟨a, 0, none⟩) 5 ca) yD
  r : Kd.R k81 81 w w0.heap.size (fun _ => True) (.slice (some ⟨b, 0, none⟩) 3 cb) yl
  o : Kd.R k84 84 w w0.heap.size (fun _ => True) (.slice (some ⟨d, 0, none⟩) 3 3) ql
  ne : g ≠ w0.heap.size
section
variable {w0 w w1 : World} {g a b d ca cb : Nat} {cs : Array Value}
theorem CfR.below (h : CfR w0 g a b d ca cb cs w) (hb : Below w.heap.size w w1) : CfR w0 g a b d ca cb cs w1 := ⟨h.s.below hb, h.t.below hb, Kd.zy h.m hb, Kd.zy h.r hb, Kd.zy h.o hb, h.ne⟩
theorem CfS.zc (h : CfS w0 g z30 w) : w.cell? ⟨g, 0, none⟩ = some (.slice none 0 0) ∧ w.cell? ⟨g, 1, none⟩ = some (.slice none 0 0) ∧ w.cell? ⟨g, 2, none⟩ = some (.int .i64 0) ∧ w.cell? ⟨g, 3, none⟩ = some (.int .i64 0) ∧ w.cell? ⟨g, 4, none⟩ = some (.int .i64 0) ∧ w.cell? ⟨g, 5, none⟩ = some (.int .i64 0) ∧ w.cell? ⟨g, 6, none⟩ = some (.int .i64 0) ∧ w.cell? ⟨g, 7, none⟩ = some (.int .i64 0) ∧ w.cell? ⟨g, 8, none⟩ = some (.int .i64 0) ∧ w.cell? ⟨g, 9, none⟩ = some (.int .i64 0) ∧ w.cell? ⟨g, 10, none⟩ = some (.int .i64 0) ∧ w.cell? ⟨g, 11, none⟩ = some (.int .u64 0) ∧ w.cell? ⟨g, 12, none⟩ = some (.slice none 0 0) := CfS.c h
theorem CfS.far (h : CfS w0 g cs w) {g2 : Nat} (hg : g ≠ g2) (h2 : w0.heap.size ≤ g2) (i : Nat) (v : Value) : CfS w0 g cs (w.setCell ⟨g2, i, none⟩ v) := ⟨(Below.heap_setCell w ⟨g2, i, none⟩ v g hg).trans h.X, h.B.setCell h2 v, h.ge⟩
theorem CfR.set {cs' : Array Value} (h : CfR w0 g a b d ca cb cs w) (i : Nat) (v : Value) (hcs : cs.setIfInBounds i v = cs' := by (simp only [List.setIfInBounds_toArray, List.set_cons_zero, List.set_cons_succ]; rfl)) : CfR w0 g a b d ca cb cs' (w.setCell ⟨g, i, none⟩ v) :=
  ⟨hcs ▸ h.s.set i v, h.t.far h.ne.symm h.s.ge i v, Kd.vX h.m h.s.X (by decide) i v, Kd.vX h.r h.s.X (by decide) i v, Kd.vX h.o h.s.X (by decide) i v, h.ne⟩
end
theorem zcx (w : World) : Calls Tryz.prog 16 #[.slice none 0 0] w fun e w' => ∃ a b d ca cb, e = .returned (.agg #[.slice (some ⟨a, 0, none⟩) 5 ca, .slice (some ⟨b, 0, none⟩) 3 cb, .int .i64 100, .int .i64 1, .int .i64 1, .int .i64 0, .int .i64 0, .int .i64 1, .int .i64 1, .int .i64 1024, .int .i64 1024, .int .u64 18446744073709551615, .slice (some ⟨d, 0, none⟩) 3 3]) ∧ Kd.R k78 78 w' w.heap.size (fun _ => True) (.slice (some ⟨a, 0, none⟩) 5 ca) yD ∧ Kd.R k81 81 w' w.heap.size (fun _ => True) (.slice (some ⟨b, 0, none⟩) 3 cb) yl ∧ Kd.R k84 84 w' w.heap.size (fun _ => True) (.slice (some ⟨d, 0, none⟩) 3 3) ql ∧ Below w.heap.size w w' := by
  have hu30 := Tryz.underlying30
  have hu78 := Tryz.underlying78
  have hu81 := Tryz.underlying81
  have hb0 : Below w.heap.size w (w.alloc (.cells z30 30)) := (Below.refl _ _).alloc (Nat.le_refl _) _
  have T0 := hQ (show CfS w w.heap.size z30 (w.alloc (.cells z30 30)) from ⟨zi w _, hb0, Nat.le_refl _⟩)
  clear hb0
  simp only [z30] at T0
  go_enter Tryz.func16, Tryz.ntmps16
  go_wp2_with (fail)
  refine (zbM _).mono ?_
  rintro e w1 ⟨A, n, c, G, rfl, hO, hb⟩
  have T1 := hQ (show CfS w w.heap.size z30 w1 from T0.out.below hb)
  have O1 := hQ (Kd.zU hO T0.out.B.size)
  have HNE := hQ (show w.heap.size < w1.heap.size from zF T1.out.X)
  clear hb hO
  obtain ⟨g, hg⟩ : ∃ g, w1.heap.size = g := ⟨_, rfl⟩
  have hb2 : Below w1.heap.size w1 (w1.alloc (.cells #[.slice A n c, .slice none 0 0, .int .i64 60000, .int .i64 100, .int .i64 32, .int .i64 8, .int .i64 10000, .int .i64 100, .int .i64 500, .int .i64 1024, .int .i64 1024, .int .u64 0, .slice (some ⟨G, 0, none⟩) 3 3] 30)) := (Below.refl _ _).alloc (Nat.le_refl _) _
  have S2 := hQ (show CfS w g #[.slice A n c, .slice none 0 0, .int .i64 60000, .int .i64 100, .int .i64 32, .int .i64 8, .int .i64 10000, .int .i64 100, .int .i64 500, .int .i64 1024, .int .i64 1024, .int .u64 0, .slice (some ⟨G, 0, none⟩) 3 3] (w1.alloc (.cells #[.slice A n c, .slice none 0 0, .int .i64 60000, .int .i64 100, .int .i64 32, .int .i64 8, .int .i64 10000, .int .i64 100, .int .i64 500, .int .i64 1024, .int .i64 1024, .int .u64 0, .slice (some ⟨G, 0, none⟩) 3 3] 30)) from ⟨by rw [← hg]; exact zi w1 _, ze T1.out.B T1.out.B.size hb2, by rw [← hg]; exact T1.out.B.size⟩)
  have T2 := hQ (T1.out.below hb2)
  have O2 := hQ (Kd.zy O1.out hb2)
  have HGW := hQ (show g < (w1.alloc (.cells #[.slice A n c, .slice none 0 0, .int .i64 60000, .int .i64 100, .int .i64 32, .int .i64 8, .int .i64 10000, .int .i64 100, .int .i64 500, .int .i64 1024, .int .i64 1024, .int .u64 0, .slice (some ⟨G, 0, none⟩) 3 3] 30)).heap.size from zF S2.out.X)
  have HNE2 := hQ (show g ≠ w.heap.size by have := HNE.out; omega)
  generalize hW2 : w1.alloc (.cells #[.slice A n c, .slice none 0 0, .int .i64 60000, .int .i64 100, .int .i64 32, .int .i64 8, .int .i64 10000, .int .i64 100, .int .i64 500, .int .i64 1024, .int .i64 1024, .int .u64 0, .slice (some ⟨G, 0, none⟩) 3 3] 30) = W2 at *
  go_wp2_with (first | ((with_reducible refine zS (N := 10) rfl ?_); go_must (refine Kd.kU k78 (w0 := w) w.heap.size 78 rfl (N := 10) rfl (xs := yD) (inner := #[.int .i64 0, .int .i64 0, .int .i64 40, .int .i64 1, .int .i64 0, .int .i64 40, .int .i64 2, .int .i64 0, .int .i64 20, .int .i64 2, .int .i64 24, .int .i64 40, .int .i64 3, .int .i64 0, .int .i64 40].toList) (ok := fun _ => True) (okp := fun _ => False) (by kernel_rfl) (yK.c3 (qC _ _ _ ⟨0, 0, 40⟩) (yK.c3 (qC _ _ _ ⟨1, 0, 40⟩) (yK.c3 (qC _ _ _ ⟨2, 0, 20⟩) (yK.c3 (qC _ _ _ ⟨2, 24, 40⟩) (yK.c3 (qC _ _ _ ⟨3, 0, 40⟩) (yK.none _ _)))))) (fun _ h => h.elim) trivial S2.out.B S2.out.B.size (by decide) ?_; intro v3 w3 ho hb hg hat; obtain ⟨a, ca, e3, _, _, _⟩ := Kd.xX ho (by decide); have e4 : v3 = .slice (some ⟨a, 0, none⟩) 5 ca := e3; clear e3; subst e4; have S3 := hQ (show CfS w g #[.slice A n c, .slice none 0 0, .int .i64 60000, .int .i64 100, .int .i64 32, .int .i64 8, .int .i64 10000, .int .i64 100, .int .i64 500, .int .i64 1024, .int .i64 1024, .int .u64 0, .slice (some ⟨G, 0, none⟩) 3 3] w3 from S2.out.below (Zg hg)); have T3 := hQ (show CfS w w.heap.size z30 w3 from T2.out.below (Zg hg)); have R3 := hQ (show Kd.R k78 78 w3 w.heap.size (fun _ => True) (.slice (some ⟨a, 0, none⟩) 5 ca) yD from ho); have O3 := hQ (Kd.zy O2.out (Zg hg)); have x0 : w3.cell? ⟨g, 0, none⟩ = some (.slice A n c) := za S3.out.X 0; have f0 : w3.frozen? ⟨g, 0, none⟩ = false := zh S3.out.X 0; clear ho hb hg hat)) | ((with_reducible refine zS (N := 15) rfl ?_); go_must (refine Kd.kU k81 (w0 := w) w.heap.size 81 rfl (N := 15) rfl (xs := yl) (inner := #[.int .i64 2, .int .i64 4, .int .i64 2, .int .i64 2, .int .i64 8, .int .i64 4, .int .i64 3, .int .i64 4, .int .i64 4].toList) (ok := fun _ => True) (okp := fun _ => False) (by kernel_rfl) (yK.c3 (Yy _ _ _ ⟨2, 4, 2⟩) (yK.c3 (Yy _ _ _ ⟨2, 8, 4⟩) (yK.c3 (Yy _ _ _ ⟨3, 4, 4⟩) (yK.none _ _)))) (fun _ h => h.elim) trivial (S3.out.set 0 (.slice (some ⟨a, 0, none⟩) 5 ca)).B (S3.out.set 0 (.slice (some ⟨a, 0, none⟩) 5 ca)).B.size (by decide) ?_; intro v4 w4 ho hb hg hat; obtain ⟨b, cb, e3, _, _, _⟩ := Kd.xX ho (by decide); have e4 : v4 = .slice (some ⟨b, 0, none⟩) 3 cb := e3; clear e3; subst e4; have S4 := S3.out.set 0 (.slice (some ⟨a, 0, none⟩) 5 ca); have T4 := T3.out.far HNE2.out.symm S3.out.ge 0 (.slice (some ⟨a, 0, none⟩) 5 ca); have K4 := hQ (show CfR w g a b G ca cb #[.slice (some ⟨a, 0, none⟩) 5 ca, .slice none 0 0, .int .i64 60000, .int .i64 100, .int .i64 32, .int .i64 8, .int .i64 10000, .int .i64 100, .int .i64 500, .int .i64 1024, .int .i64 1024, .int .u64 0, .slice (some ⟨G, 0, none⟩) 3 3] w4 from ⟨S4.below (Zg hg), T4.below (Zg hg), Kd.zy (Kd.vX R3.out S3.out.X (by decide) 0 (.slice (some ⟨a, 0, none⟩) 5 ca)) (Zg hg), ho, Kd.zy (Kd.vX O3.out S3.out.X (by decide) 0 (.slice (some ⟨a, 0, none⟩) 5 ca)) (Zg hg), HNE2.out⟩); clear S4 T4 ho hb hg hat; have x1 : w4.cell? ⟨g, 1, none⟩ = some (.slice none 0 0) := za K4.out.s.X 1; have f1 : w4.frozen? ⟨g, 1, none⟩ = false := zh K4.out.s.X 1; have x2 : (w4.setCell ⟨g, 1, none⟩ (.slice (some ⟨b, 0, none⟩) 3 cb)).cell? ⟨g, 2, none⟩ = some (.int .i64 60000) := za (K4.out.set 1 (.slice (some ⟨b, 0, none⟩) 3 cb)).s.X 2; have f2 : (w4.setCell ⟨g, 1, none⟩ (.slice (some ⟨b, 0, none⟩) 3 cb)).frozen? ⟨g, 2, none⟩ = false := zh (K4.out.set 1 (.slice (some ⟨b, 0, none⟩) 3 cb)).s.X 2; have K5 := hQ ((K4.out.set 1 (.slice (some ⟨b, 0, none⟩) 3 cb)).set 2 (.int .i64 100)))))
  refine (yO.calls none 0 [] 0 0 _ (Kd.jU _ _) (Nat.le_refl _) (by kernel_rfl)).mono ?_
  rintro e w6 ⟨rfl, hd⟩
  have K6 := hQ (K5.out.below hd.below)
  clear hd
  go_wp2_with (fail)
  refine (zG.calls 0 12 0 _ (by kernel_rfl)).mono ?_
  rintro e w7 ⟨rfl, hd⟩
  have K7 := hQ (K6.out.below hd.below)
  clear hd
  have x3 : w7.cell? ⟨g, 3, none⟩ = some (.int .i64 100) := za K7.out.s.X 3
  have f3 : w7.frozen? ⟨g, 3, none⟩ = false := zh K7.out.s.X 3
  go_wp2_with (fail)
  refine (yO.calls none 0 [] 0 0 _ (Kd.jU _ _) (Nat.le_refl _) (by kernel_rfl)).mono ?_
  rintro e w8 ⟨rfl, hd⟩
  have K8 := hQ ((K7.out.set 3 (.int .i64 1)).below hd.below)
  clear hd
  go_wp2_with (fail)
  refine (xc.calls 0 12 5 0 _ (by kernel_rfl)).mono ?_
  rintro e w9 ⟨rfl, hd⟩
  have K9 := hQ (K8.out.below hd.below)
  clear hd
  have x5 : w9.cell? ⟨g, 5, none⟩ = some (.int .i64 8) := za K9.out.s.X 5
  have f5 : w9.frozen? ⟨g, 5, none⟩ = false := zh K9.out.s.X 5
  have x6 : (w9.setCell ⟨g, 5, none⟩ (.int .i64 0)).cell? ⟨g, 6, none⟩ = some (.int .i64 10000) := za (K9.out.set 5 (.int .i64 0)).s.X 6
  have f6 : (w9.setCell ⟨g, 5, none⟩ (.int .i64 0)).frozen? ⟨g, 6, none⟩ = false := zh (K9.out.set 5 (.int .i64 0)).s.X 6
  go_wp2_with (fail)
  refine (yO.calls none 0 [] 1 0 _ (Kd.jU _ _) (Nat.le_refl _) (by kernel_rfl)).mono ?_
  rintro e w10 ⟨rfl, hd⟩
  have K10 := hQ (((K9.out.set 5 (.int .i64 0)).set 6 (.int .i64 2000)).below hd.below)
  clear hd
  go_wp2_with (fail)
  refine (zG.calls 0 6 0 _ (by kernel_rfl)).mono ?_
  rintro e w11 ⟨rfl, hd⟩
  have K11 := hQ (K10.out.below hd.below)
  clear hd
  have x7 : w11.cell? ⟨g, 7, none⟩ = some (.int .i64 100) := za K11.out.s.X 7
  have f7 : w11.frozen? ⟨g, 7, none⟩ = false := zh K11.out.s.X 7
  go_wp2_with (fail)
  refine (yO.calls none 0 [] 1 0 _ (Kd.jU _ _) (Nat.le_refl _) (by kernel_rfl)).mono ?_
  rintro e w12 ⟨rfl, hd⟩
  have K12 := hQ ((K11.out.set 7 (.int .i64 1)).below hd.below)
  clear hd
  go_wp2_with (fail)
  refine (xc.calls 0 6 20 0 _ (by kernel_rfl)).mono ?_
  rintro e w13 ⟨rfl, hd⟩
  have K13 := hQ (K12.out.below hd.below)
  clear hd
  have x8 : w13.cell? ⟨g, 8, none⟩ = some (.int .i64 500) := za K13.out.s.X 8
  have f8 : w13.frozen? ⟨g, 8, none⟩ = false := zh K13.out.s.X 8
  go_wp2_with (fail)
  refine (yO.calls none 0 [] 1 0 _ (Kd.jU _ _) (Nat.le_refl _) (by kernel_rfl)).mono ?_
  rintro e w14 ⟨rfl, hd⟩
  have K14 := hQ ((K13.out.set 8 (.int .i64 1)).below hd.below)
  clear hd
  go_wp2_with (fail)
  refine (xc.calls 0 120 3 0 _ (by kernel_rfl)).mono ?_
  rintro e w15 ⟨rfl, hd⟩
  have K15 := hQ (K14.out.below hd.below)
  clear hd
  go_wp2_with (fail)
  refine (yO.calls none 0 [] 2 0 _ (Kd.jU _ _) (Nat.le_refl _) (by kernel_rfl)).mono ?_
  rintro e w16 ⟨rfl, hd⟩
  have K16 := hQ (K15.out.below hd.below)
  clear hd
  go_wp2_with (fail)
  refine (zG.calls 0 4 0 _ (by kernel_rfl)).mono ?_
  rintro e w17 ⟨rfl, hd⟩
  have K17 := hQ (K16.out.below hd.below)
  clear hd
  go_wp2_with (fail)
  refine (yO.calls none 0 [] 2 0 _ (Kd.jU _ _) (Nat.le_refl _) (by kernel_rfl)).mono ?_
  rintro e w18 ⟨rfl, hd⟩
  have K18 := hQ (K17.out.below hd.below)
  clear hd
  go_wp2_with (fail)
  refine (xc.calls 0 4 60 0 _ (by kernel_rfl)).mono ?_
  rintro e w19 ⟨rfl, hd⟩
  have K19 := hQ (K18.out.below hd.below)
  clear hd
  have x6 : w19.cell? ⟨g, 6, none⟩ = some (.int .i64 2000) := za K19.out.s.X 6
  have f6 : w19.frozen? ⟨g, 6, none⟩ = false := zh K19.out.s.X 6
  go_wp2_with (fail)
  refine (yO.calls none 0 [] 2 0 _ (Kd.jU _ _) (Nat.le_refl _) (by kernel_rfl)).mono ?_
  rintro e w20 ⟨rfl, hd⟩
  have K20 := hQ ((K19.out.set 6 (.int .i64 0)).below hd.below)
  clear hd
  go_wp2_with (fail)
  refine (xc.calls 0 240 6 0 _ (by kernel_rfl)).mono ?_
  rintro e w21 ⟨rfl, hd⟩
  have K21 := hQ (K20.out.below hd.below)
  clear hd
  have x4 : w21.cell? ⟨g, 4, none⟩ = some (.int .i64 32) := za K21.out.s.X 4
  have f4 : w21.frozen? ⟨g, 4, none⟩ = false := zh K21.out.s.X 4
  go_wp2_with (fail)
  refine (yO.calls none 0 [] 3 0 _ (Kd.jU _ _) (Nat.le_refl _) (by kernel_rfl)).mono ?_
  rintro e w22 ⟨rfl, hd⟩
  have K22 := hQ ((K21.out.set 4 (.int .i64 1)).below hd.below)
  clear hd
  go_wp2_with (fail)
  refine (zG.calls 0 9 0 _ (by kernel_rfl)).mono ?_
  rintro e w23 ⟨rfl, hd⟩
  have K23 := hQ (K22.out.below hd.below)
  clear hd
  have x11 : w23.cell? ⟨g, 11, none⟩ = some (.int .u64 0) := za K23.out.s.X 11
  have f11 : w23.frozen? ⟨g, 11, none⟩ = false := zh K23.out.s.X 11
  go_wp2_with (fail)
  refine (yO.calls none 0 [] 3 0 _ (Kd.jU _ _) (Nat.le_refl _) (by kernel_rfl)).mono ?_
  rintro e w24 ⟨rfl, hd⟩
  have K24 := hQ ((K23.out.set 11 (.int .u64 0)).below hd.below)
  clear hd
  go_wp2_with (fail)
  refine (xc.calls 0 9 6 0 _ (by kernel_rfl)).mono ?_
  rintro e w25 ⟨rfl, hd⟩
  have K25 := hQ (K24.out.below hd.below)
  clear hd
  have x11 : w25.cell? ⟨g, 11, none⟩ = some (.int .u64 0) := za K25.out.s.X 11
  have f11 : w25.frozen? ⟨g, 11, none⟩ = false := zh K25.out.s.X 11
  have KF := hQ (K25.out.set 11 (.int .u64 18446744073709551615))
  obtain ⟨z0, z1, z2, z3, z4, z5, z6, z7, z8, z9, z10, z11, z12⟩ := KF.out.s.c
  obtain ⟨y0, y1, y2, y3, y4, y5, y6, y7, y8, y9, y10, y11, y12⟩ := KF.out.t.zc
  have fy := fun i => zh KF.out.t.X i
  go_wp2_with (fail)
  refine bodyPost_ret (v := .agg #[.slice (some ⟨a, 0, none⟩) 5 ca, .slice (some ⟨b, 0, none⟩) 3 cb, .int .i64 100, .int .i64 1, .int .i64 1, .int .i64 0, .int .i64 0, .int .i64 1, .int .i64 1, .int .i64 1024, .int .i64 1024, .int .u64 18446744073709551615, .slice (some ⟨G, 0, none⟩) 3 3]) ?_ rfl ⟨_, _, _, _, _, rfl, qB (g1 := w.heap.size) (g2 := w.heap.size) (fun i h1 h2 => ?_) KF.out.t.X KF.out.t.X (by decide) KF.out.m, qB (g1 := w.heap.size) (g2 := w.heap.size) (fun i h1 h2 => ?_) KF.out.t.X KF.out.t.X (by decide) KF.out.r, qB (g1 := w.heap.size) (g2 := w.heap.size) (fun i h1 h2 => ?_) KF.out.t.X KF.out.t.X (by decide) KF.out.o, ?_⟩
  · simp [results, Tryz.results16, go_sem, hu30, y0, y1, y2, y3, y4, y5, y6, y7, y8, y9, y10, y11, y12]
  · iterate 13 rw [Below.heap_setCell _ _ _ i h1]
  · iterate 13 rw [Below.heap_setCell _ _ _ i h1]
  · iterate 13 rw [Below.heap_setCell _ _ _ i h1]
  · refine KF.out.t.B.trans ?_
    (repeat (with_reducible first | exact Below.refl _ _ | (refine jc ?_ (by omega))))
theorem zc3 (w : World) : Calls Tryz.prog 7 #[] w fun e w' => ∃ a b d ca cb, e = .returned (.agg #[.slice (some ⟨a, 0, none⟩) 5 ca, .slice (some ⟨b, 0, none⟩) 3 cb, .int .i64 100, .int .i64 1000, .int .i64 8, .int .i64 8, .int .i64 100000, .int .i64 500, .int .i64 2000, .int .i64 1024, .int .i64 1024, .int .u64 0, .slice (some ⟨d, 0, none⟩) 3 3]) ∧ Kd.R k78 78 w' w.heap.size (fun _ => True) (.slice (some ⟨a, 0, none⟩) 5 ca) yD ∧ Kd.R k81 81 w' w.heap.size (fun _ => True) (.slice (some ⟨b, 0, none⟩) 3 cb) yl ∧ Kd.R k84 84 w' w.heap.size (fun _ => True) (.slice (some ⟨d, 0, none⟩) 3 3) ql ∧ Below w.heap.size w w' := by
  have hu30 := Tryz.underlying30
  have hb0 : Below w.heap.size w (w.alloc (.cells z30 30)) := (Below.refl _ _).alloc (Nat.le_refl _) _
  have T0 := hQ (show CfS w w.heap.size z30 (w.alloc (.cells z30 30)) from ⟨zi w _, hb0, Nat.le_refl _⟩)
  clear hb0
  simp only [z30] at T0
  go_enter Tryz.func7, Tryz.ntmps7
  go_wp2_with (fail)
  refine (zcx _).mono ?_
  rintro e w1 ⟨a, b, d, ca, cb, rfl, hm, hr, hO, hb⟩
  have hT1 : CfS w w.heap.size z30 w1 := T0.out.below hb
  have HNE := hQ (show w.heap.size < w1.heap.size from zF hT1.X)
  obtain ⟨g, hg⟩ : ∃ g, w1.heap.size = g := ⟨_, rfl⟩
  have hb2 : Below w1.heap.size w1 (w1.alloc (.cells #[.slice (some ⟨a, 0, none⟩) 5 ca, .slice (some ⟨b, 0, none⟩) 3 cb, .int .i64 100, .int .i64 1, .int .i64 1, .int .i64 0, .int .i64 0, .int .i64 1, .int .i64 1, .int .i64 1024, .int .i64 1024, .int .u64 18446744073709551615, .slice (some ⟨d, 0, none⟩) 3 3] 30)) := (Below.refl _ _).alloc (Nat.le_refl _) _
  have K2 : CfR w g a b d ca cb #[.slice (some ⟨a, 0, none⟩) 5 ca, .slice (some ⟨b, 0, none⟩) 3 cb, .int .i64 100, .int .i64 1, .int .i64 1, .int .i64 0, .int .i64 0, .int .i64 1, .int .i64 1, .int .i64 1024, .int .i64 1024, .int .u64 18446744073709551615, .slice (some ⟨d, 0, none⟩) 3 3] (w1.alloc (.cells #[.slice (some ⟨a, 0, none⟩) 5 ca, .slice (some ⟨b, 0, none⟩) 3 cb, .int .i64 100, .int .i64 1, .int .i64 1, .int .i64 0, .int .i64 0, .int .i64 1, .int .i64 1, .int .i64 1024, .int .i64 1024, .int .u64 18446744073709551615, .slice (some ⟨d, 0, none⟩) 3 3] 30)) := ⟨⟨by rw [← hg]; exact zi w1 _, ze hT1.B hT1.B.size hb2, by rw [← hg]; exact hT1.B.size⟩, hT1.below hb2, Kd.zy (Kd.zU hm T0.out.B.size) hb2, Kd.zy (Kd.zU hr T0.out.B.size) hb2, Kd.zy (Kd.zU hO T0.out.B.size) hb2, by have := HNE.out; omega⟩
  clear hm hr hO hb hT1 hb2
  generalize hW2 : w1.alloc (.cells #[.slice (some ⟨a, 0, none⟩) 5 ca, .slice (some ⟨b, 0, none⟩) 3 cb, .int .i64 100, .int .i64 1, .int .i64 1, .int .i64 0, .int .i64 0, .int .i64 1, .int .i64 1, .int .i64 1024, .int .i64 1024, .int .u64 18446744073709551615, .slice (some ⟨d, 0, none⟩) 3 3] 30) = W2 at *
  have x3 : W2.cell? ⟨g, 3, none⟩ = some (.int .i64 1) := za K2.s.X 3
  have f3 : W2.frozen? ⟨g, 3, none⟩ = false := zh K2.s.X 3
  have x5 : (W2.setCell ⟨g, 3, none⟩ (.int .i64 1000)).cell? ⟨g, 5, none⟩ = some (.int .i64 0) := za (K2.set 3 (.int .i64 1000)).s.X 5
  have f5 : (W2.setCell ⟨g, 3, none⟩ (.int .i64 1000)).frozen? ⟨g, 5, none⟩ = false := zh (K2.set 3 (.int .i64 1000)).s.X 5
  have x6 : ((W2.setCell ⟨g, 3, none⟩ (.int .i64 1000)).setCell ⟨g, 5, none⟩ (.int .i64 8)).cell? ⟨g, 6, none⟩ = some (.int .i64 0) := za ((K2.set 3 (.int .i64 1000)).set 5 (.int .i64 8)).s.X 6
  have f6 : ((W2.setCell ⟨g, 3, none⟩ (.int .i64 1000)).setCell ⟨g, 5, none⟩ (.int .i64 8)).frozen? ⟨g, 6, none⟩ = false := zh ((K2.set 3 (.int .i64 1000)).set 5 (.int .i64 8)).s.X 6
  have x7 : (((W2.setCell ⟨g, 3, none⟩ (.int .i64 1000)).setCell ⟨g, 5, none⟩ (.int .i64 8)).setCell ⟨g, 6, none⟩ (.int .i64 100000)).cell? ⟨g, 7, none⟩ = some (.int .i64 1) := za (((K2.set 3 (.int .i64 1000)).set 5 (.int .i64 8)).set 6 (.int .i64 100000)).s.X 7
  have f7 : (((W2.setCell ⟨g, 3, none⟩ (.int .i64 1000)).setCell ⟨g, 5, none⟩ (.int .i64 8)).setCell ⟨g, 6, none⟩ (.int .i64 100000)).frozen? ⟨g, 7, none⟩ = false := zh (((K2.set 3 (.int .i64 1000)).set 5 (.int .i64 8)).set 6 (.int .i64 100000)).s.X 7
  have x8 : ((((W2.setCell ⟨g, 3, none⟩ (.int .i64 1000)).setCell ⟨g, 5, none⟩ (.int .i64 8)).setCell ⟨g, 6, none⟩ (.int .i64 100000)).setCell ⟨g, 7, none⟩ (.int .i64 500)).cell? ⟨g, 8, none⟩ = some (.int .i64 1) := za ((((K2.set 3 (.int .i64 1000)).set 5 (.int .i64 8)).set 6 (.int .i64 100000)).set 7 (.int .i64 500)).s.X 8
  have f8 : ((((W2.setCell ⟨g, 3, none⟩ (.int .i64 1000)).setCell ⟨g, 5, none⟩ (.int .i64 8)).setCell ⟨g, 6, none⟩ (.int .i64 100000)).setCell ⟨g, 7, none⟩ (.int .i64 500)).frozen? ⟨g, 8, none⟩ = false := zh ((((K2.set 3 (.int .i64 1000)).set 5 (.int .i64 8)).set 6 (.int .i64 100000)).set 7 (.int .i64 500)).s.X 8
  have x4 : (((((W2.setCell ⟨g, 3, none⟩ (.int .i64 1000)).setCell ⟨g, 5, none⟩ (.int .i64 8)).setCell ⟨g, 6, none⟩ (.int .i64 100000)).setCell ⟨g, 7, none⟩ (.int .i64 500)).setCell ⟨g, 8, none⟩ (.int .i64 2000)).cell? ⟨g, 4, none⟩ = some (.int .i64 1) := za (((((K2.set 3 (.int .i64 1000)).set 5 (.int .i64 8)).set 6 (.int .i64 100000)).set 7 (.int .i64 500)).set 8 (.int .i64 2000)).s.X 4
  have f4 : (((((W2.setCell ⟨g, 3, none⟩ (.int .i64 1000)).setCell ⟨g, 5, none⟩ (.int .i64 8)).setCell ⟨g, 6, none⟩ (.int .i64 100000)).setCell ⟨g, 7, none⟩ (.int .i64 500)).setCell ⟨g, 8, none⟩ (.int .i64 2000)).frozen? ⟨g, 4, none⟩ = false := zh (((((K2.set 3 (.int .i64 1000)).set 5 (.int .i64 8)).set 6 (.int .i64 100000)).set 7 (.int .i64 500)).set 8 (.int .i64 2000)).s.X 4
  have x11 : ((((((W2.setCell ⟨g, 3, none⟩ (.int .i64 1000)).setCell ⟨g, 5, none⟩ (.int .i64 8)).setCell ⟨g, 6, none⟩ (.int .i64 100000)).setCell ⟨g, 7, none⟩ (.int .i64 500)).setCell ⟨g, 8, none⟩ (.int .i64 2000)).setCell ⟨g, 4, none⟩ (.int .i64 8)).cell? ⟨g, 11, none⟩ = some (.int .u64 18446744073709551615) := za ((((((K2.set 3 (.int .i64 1000)).set 5 (.int .i64 8)).set 6 (.int .i64 100000)).set 7 (.int .i64 500)).set 8 (.int .i64 2000)).set 4 (.int .i64 8)).s.X 11
  have f11 : ((((((W2.setCell ⟨g, 3, none⟩ (.int .i64 1000)).setCell ⟨g, 5, none⟩ (.int .i64 8)).setCell ⟨g, 6, none⟩ (.int .i64 100000)).setCell ⟨g, 7, none⟩ (.int .i64 500)).setCell ⟨g, 8, none⟩ (.int .i64 2000)).setCell ⟨g, 4, none⟩ (.int .i64 8)).frozen? ⟨g, 11, none⟩ = false := zh ((((((K2.set 3 (.int .i64 1000)).set 5 (.int .i64 8)).set 6 (.int .i64 100000)).set 7 (.int .i64 500)).set 8 (.int .i64 2000)).set 4 (.int .i64 8)).s.X 11
  have KF := hQ (((((((K2.set 3 (.int .i64 1000)).set 5 (.int .i64 8)).set 6 (.int .i64 100000)).set 7 (.int .i64 500)).set 8 (.int .i64 2000)).set 4 (.int .i64 8)).set 11 (.int .u64 0))
  obtain ⟨z0, z1, z2, z3, z4, z5, z6, z7, z8, z9, z10, z11, z12⟩ := KF.out.s.c
  obtain ⟨y0, y1, y2, y3, y4, y5, y6, y7, y8, y9, y10, y11, y12⟩ := KF.out.t.zc
  have fy := fun i => zh KF.out.t.X i
  clear K2
  go_wp2_with (fail)
  refine bodyPost_ret (v := .agg #[.slice (some ⟨a, 0, none⟩) 5 ca, .slice (some ⟨b, 0, none⟩) 3 cb, .int .i64 100, .int .i64 1000, .int .i64 8, .int .i64 8, .int .i64 100000, .int .i64 500, .int .i64 2000, .int .i64 1024, .int .i64 1024, .int .u64 0, .slice (some ⟨d, 0, none⟩) 3 3]) ?_ rfl ⟨_, _, _, _, _, rfl, qB (g1 := w.heap.size) (g2 := w.heap.size) (fun i h1 h2 => ?_) KF.out.t.X KF.out.t.X (by decide) KF.out.m, qB (g1 := w.heap.size) (g2 := w.heap.size) (fun i h1 h2 => ?_) KF.out.t.X KF.out.t.X (by decide) KF.out.r, qB (g1 := w.heap.size) (g2 := w.heap.size) (fun i h1 h2 => ?_) KF.out.t.X KF.out.t.X (by decide) KF.out.o, ?_⟩
  · simp [results, Tryz.results7, go_sem, hu30, y0, y1, y2, y3, y4, y5, y6, y7, y8, y9, y10, y11, y12]
  · iterate 13 rw [Below.heap_setCell _ _ _ i h1]
  · iterate 13 rw [Below.heap_setCell _ _ _ i h1]
  · iterate 13 rw [Below.heap_setCell _ _ _ i h1]
  · refine KF.out.t.B.trans ?_
    (repeat (with_reducible first | exact Below.refl _ _ | (refine jc ?_ (by omega))))
theorem Xd (w : World) : Calls Tryz.prog 7 #[] w fun e w' => ∃ v0_ v1_ v12_ : Value, e = .returned (.agg #[v0_, v1_, .int .i64 100, .int .i64 1000, .int .i64 8, .int .i64 8, .int .i64 100000, .int .i64 500, .int .i64 2000, .int .i64 1024, .int .i64 1024, .int .u64 0, v12_]) ∧ Kd.R k78 78 w' w.heap.size (fun _ => True) v0_ yD ∧ Kd.R k81 81 w' w.heap.size (fun _ => True) v1_ yl ∧ Kd.R k84 84 w' w.heap.size (fun _ => True) v12_ ql ∧ Below w.heap.size w w' :=
  (zc3 w).mono (by
    rintro e w1 ⟨a, b, d, ca, cb, rfl, h1, h2, h3, h4⟩
    exact ⟨_, _, _, rfl, h1, h2, h3, h4⟩)
theorem KS (w : World) (Am Ag Ao : Option Addr) (cm cg co : Nat) (hM : Kd.C k78 w Am 5 yD) (hcm : 5 ≤ cm) (hG : Kd.C k81 w Ag 3 yl) (hO : Kd.C k84 w Ao 3 ql) (hco : 3 ≤ co) :
    Calls Tryz.prog 22 #[.agg #[.slice Am 5 cm, .slice Ag 3 cg, .int .i64 100, .int .i64 1000, .int .i64 8, .int .i64 8, .int .i64 100000, .int .i64 500, .int .i64 2000, .int .i64 1024, .int .i64 1024, .int .u64 0, .slice Ao 3 co]] w fun e w' => e = .returned (.int .i64 0) ∧ Below w.heap.size w w' := by
  have hu30 := Tryz.underlying30
  have HM := hQ hM
  have HG := hQ hG
  have HO := hQ hO
  have HCM := hQ hcm
  have HCO := hQ hco
  have S1 := hQ (show CfS w w.heap.size #[.slice Am 5 cm, .slice Ag 3 cg, .int .i64 100, .int .i64 1000, .int .i64 8, .int .i64 8, .int .i64 100000, .int .i64 500, .int .i64 2000, .int .i64 1024, .int .i64 1024, .int .u64 0, .slice Ao 3 co] (w.alloc (.cells #[.slice Am 5 cm, .slice Ag 3 cg, .int .i64 100, .int .i64 1000, .int .i64 8, .int .i64 8, .int .i64 100000, .int .i64 500, .int .i64 2000, .int .i64 1024, .int .i64 1024, .int .u64 0, .slice Ao 3 co] 30)) from ⟨zi w _, (Below.refl _ _).alloc (Nat.le_refl _) _, Nat.le_refl _⟩)
  clear hM hG hO hcm hco
  obtain ⟨z0, z1, z2, z3, z4, z5, z6, z7, z8, z9, z10, z11, z12⟩ := S1.out.c
  go_enter Tryz.func22, Tryz.ntmps22
  go_wp2_with (fail)
  refine (jo _ 1000 1 65535 (by decide)).mono ?_
  rintro e w2 ⟨rfl, hd⟩
  have S2 := hQ (S1.out.below hd.below)
  clear hd z0 z1 z2 z3 z4 z5 z6 z7 z8 z9 z10 z11 z12
  obtain ⟨z0, z1, z2, z3, z4, z5, z6, z7, z8, z9, z10, z11, z12⟩ := S2.out.c
  go_wp2_with (fail)
  refine (jo _ 8 1 32 (by decide)).mono ?_
  rintro e w3 ⟨rfl, hd⟩
  have S3 := hQ (S2.out.below hd.below)
  clear hd z0 z1 z2 z3 z4 z5 z6 z7 z8 z9 z10 z11 z12
  obtain ⟨z0, z1, z2, z3, z4, z5, z6, z7, z8, z9, z10, z11, z12⟩ := S3.out.c
  go_wp2_with (fail)
  refine (jo _ 8 0 32 (by decide)).mono ?_
  rintro e w4 ⟨rfl, hd⟩
  have S4 := hQ (S3.out.below hd.below)
  clear hd z0 z1 z2 z3 z4 z5 z6 z7 z8 z9 z10 z11 z12
  obtain ⟨z0, z1, z2, z3, z4, z5, z6, z7, z8, z9, z10, z11, z12⟩ := S4.out.c
  go_wp2_with (fail)
  refine (jo _ 100000 0 1048576 (by decide)).mono ?_
  rintro e w5 ⟨rfl, hd⟩
  have S5 := hQ (S4.out.below hd.below)
  clear hd z0 z1 z2 z3 z4 z5 z6 z7 z8 z9 z10 z11 z12
  obtain ⟨z0, z1, z2, z3, z4, z5, z6, z7, z8, z9, z10, z11, z12⟩ := S5.out.c
  go_wp2_with (fail)
  refine (jo _ 500 1 1000 (by decide)).mono ?_
  rintro e w6 ⟨rfl, hd⟩
  have S6 := hQ (S5.out.below hd.below)
  clear hd z0 z1 z2 z3 z4 z5 z6 z7 z8 z9 z10 z11 z12
  obtain ⟨z0, z1, z2, z3, z4, z5, z6, z7, z8, z9, z10, z11, z12⟩ := S6.out.c
  go_wp2_with (fail)
  refine (jo _ 2000 1 5000 (by decide)).mono ?_
  rintro e w7 ⟨rfl, hd⟩
  have S7 := hQ (S6.out.below hd.below)
  clear hd z0 z1 z2 z3 z4 z5 z6 z7 z8 z9 z10 z11 z12
  obtain ⟨z0, z1, z2, z3, z4, z5, z6, z7, z8, z9, z10, z11, z12⟩ := S7.out.c
  go_wp2_with (fail)
  refine (jo _ 1024 260 65536 (by decide)).mono ?_
  rintro e w8 ⟨rfl, hd⟩
  have S8 := hQ (S7.out.below hd.below)
  clear hd z0 z1 z2 z3 z4 z5 z6 z7 z8 z9 z10 z11 z12
  obtain ⟨z0, z1, z2, z3, z4, z5, z6, z7, z8, z9, z10, z11, z12⟩ := S8.out.c
  go_wp2_with (fail)
  refine (jo _ 1024 260 65536 (by decide)).mono ?_
  rintro e w9 ⟨rfl, hd⟩
  have S9 := hQ (S8.out.below hd.below)
  clear hd z0 z1 z2 z3 z4 z5 z6 z7 z8 z9 z10 z11 z12
  obtain ⟨z0, z1, z2, z3, z4, z5, z6, z7, z8, z9, z10, z11, z12⟩ := S9.out.c
  go_wp2_with (fail)
  refine (KJ _ Am cm (Kd.zz HM.out S9.out.B) HCM.out).mono ?_
  rintro e w10 ⟨rfl, hd⟩
  have S10 := hQ (S9.out.below hd)
  clear hd z0 z1 z2 z3 z4 z5 z6 z7 z8 z9 z10 z11 z12
  obtain ⟨z0, z1, z2, z3, z4, z5, z6, z7, z8, z9, z10, z11, z12⟩ := S10.out.c
  go_wp2_with (fail)
  refine (QQ _ Ag cg Am cm (Kd.zz HG.out S10.out.B) (Kd.zz HM.out S10.out.B) HCM.out).mono ?_
  rintro e w11 ⟨rfl, hd⟩
  have S11 := hQ (S10.out.below hd)
  clear hd z0 z1 z2 z3 z4 z5 z6 z7 z8 z9 z10 z11 z12
  obtain ⟨z0, z1, z2, z3, z4, z5, z6, z7, z8, z9, z10, z11, z12⟩ := S11.out.c
  go_wp2_with (fail)
  refine (Kq _ Ao co (Kd.zz HO.out S11.out.B) HCO.out).mono ?_
  rintro e w12 ⟨rfl, hd⟩
  have S12 := hQ (S11.out.below hd)
  clear hd z0 z1 z2 z3 z4 z5 z6 z7 z8 z9 z10 z11 z12
  obtain ⟨z0, z1, z2, z3, z4, z5, z6, z7, z8, z9, z10, z11, z12⟩ := S12.out.c
  go_wp2_with (fail)
  exact bodyPost_ret (v := .int .i64 0) (by simp [results, Tryz.results22, go_sem]) rfl ⟨rfl, S12.out.B⟩
open Go.Proofs.YtlalbohhopmpdaaGreat.Tiny
theorem zai (m g o : Value) (dk ss : Nat) (L : Nat → Nat → Nat) : GCs (((((((((((((((Tryz.zeroCells98.setIfInBounds 0 (m)).setIfInBounds 1 (g)).setIfInBounds 2 (.int .i64 100)).setIfInBounds 3 (.int .i64 1000)).setIfInBounds 4 (.int .i64 8)).setIfInBounds 5 (.int .i64 8)).setIfInBounds 6 (.int .i64 100000)).setIfInBounds 7 (.int .i64 500)).setIfInBounds 8 (.int .i64 2000)).setIfInBounds 9 (.int .i64 1024)).setIfInBounds 10 (.int .i64 1024)).setIfInBounds 11 (.int .u64 0)).setIfInBounds 12 (o)).setIfInBounds 13 (.pointer (some ⟨dk, 0, none⟩))).setIfInBounds 14 (.pointer (some ⟨ss, 0, none⟩))) m g o dk ss 0 L := by
  refine ⟨by kernel_rfl, fun i hi => ?_, by kernel_rfl, by kernel_rfl, fun c hc => absurd hc (Nat.not_lt_zero _)⟩
  obtain rfl | rfl | rfl | rfl | rfl | rfl | rfl | rfl | rfl | rfl | rfl | rfl | rfl : i = 0 ∨ i = 1 ∨ i = 2 ∨ i = 3 ∨ i = 4 ∨ i = 5 ∨ i = 6 ∨ i = 7 ∨ i = 8 ∨ i = 9 ∨ i = 10 ∨ i = 11 ∨ i = 12 := by omega
  all_goals kernel_rfl
theorem Wx (A0 : Option Addr) (c0 : Nat) (w : World) (hr0 : Kd.C k78 w A0 5 yD) (hc0 : 5 ≤ c0) : Calls Tryz.prog 23 #[.slice A0 5 c0] w fun e w' => ∃ A c, e = .returned (.slice A 5 c) ∧ Kd.R (k78) 78 w' w.heap.size (fun _ => True) (.slice A 5 c) yD ∧ Below w.heap.size w w' := Jt A0 c0 yD w hr0 hc0 (by decide)
theorem QM (A0 : Option Addr) (c0 : Nat) (w : World) (hr0 : Kd.C k81 w A0 3 yl) (hc0 : 3 ≤ c0) : Calls Tryz.prog 24 #[.slice A0 3 c0] w fun e w' => ∃ A c, e = .returned (.slice A 3 c) ∧ Kd.R (k81) 81 w' w.heap.size (fun _ => True) (.slice A 3 c) yl ∧ Below w.heap.size w w' := zaM A0 c0 yl w hr0 hc0 (by decide)
theorem KW (A0 : Option Addr) (c0 : Nat) (w : World) (hr0 : Kd.C k84 w A0 3 ql) (hc0 : 3 ≤ c0) : Calls Tryz.prog 25 #[.slice A0 3 c0] w fun e w' => ∃ A c, e = .returned (.slice A 3 c) ∧ Kd.R (k84) 84 w' w.heap.size (fun _ => True) (.slice A 3 c) ql ∧ Below w.heap.size w w' := zaD A0 c0 ql w hr0 hc0 (by decide)
def zdm (w w' : World) (B gb : Nat) : Prop := (∃ dk x L, zQ w' B 0 x ⟨⟨0, 0, 100000, fun _ => []⟩, 0, fun _ => none, fun _ => none⟩ gb dk 0 L (fun _ => []) (fun _ => []) ∧ B ≤ dk ∧ (x.most = 8 ∧ x.spans = 500 ∧ x.writes = 2000 ∧ x.ticks = 1000)) ∧ B ≤ gb ∧ Below w.heap.size w w'
theorem Ju (w : World) (B : Nat) (hB : B ≤ w.heap.size) (Am Ag Ao : Option Addr) (cm cg co : Nat) (hM : Kd.C k78 w Am 5 yD) (hcm : 5 ≤ cm) (hG : Kd.C k81 w Ag 3 yl) (hcg : 3 ≤ cg) (hO : Kd.C k84 w Ao 3 ql) (hco : 3 ≤ co) :
    Calls Tryz.prog 14 #[.agg (xA (.slice Am 5 cm) (.slice Ag 3 cg) (.slice Ao 3 co))] w fun e w' => ∃ gb, e = .returned (.tuple #[.pointer (some ⟨gb, 0, none⟩), .int .i64 0]) ∧ zdm w w' B gb := by
  have hu30 := Tryz.underlying30
  have hu98 := Tryz.underlying98
  have B1 := hQ (show Below w.heap.size w (w.alloc (.cells (xA (.slice Am 5 cm) (.slice Ag 3 cg) (.slice Ao 3 co)) 30)) from (Below.refl _ _).alloc (Nat.le_refl _) _)
  have X1 := hQ (zi w (.cells (xA (.slice Am 5 cm) (.slice Ag 3 cg) (.slice Ao 3 co)) 30))
  have M1 := hQ (Kd.zz hM B1.out)
  have G1 := hQ (Kd.zz hG B1.out)
  have O1 := hQ (Kd.zz hO B1.out)
  have HB := hQ hB
  have HCM := hQ hcm
  have HCG := hQ hcg
  have HCO := hQ hco
  clear hB hM hG hO hcm hcg hco
  simp only [xA] at B1 X1 M1 G1 O1 ⊢
  obtain ⟨z0, z1, z2, z3, z4, z5, z6, z7, z8, z9, z10, z11, z12⟩ := YV X1.out
  go_enter Tryz.func14, Tryz.ntmps14
  go_wp2_with (fail)
  refine (KS _ Am Ag Ao cm cg co M1.out HCM.out G1.out O1.out HCO.out).mono ?_
  rintro e w2 ⟨rfl, hb⟩
  have X2 := hQ (zb X1.out hb)
  have B2 := hQ (ze B1.out B1.out.size hb)
  have M2 := hQ (Kd.zz M1.out hb)
  have G2 := hQ (Kd.zz G1.out hb)
  have O2 := hQ (Kd.zz O1.out hb)
  clear hb z0 z1 z2 z3 z4 z5 z6 z7 z8 z9 z10 z11 z12
  go_wp2_with (fail)
  have hb : Below w2.heap.size w2 w2.drew := zk (Below.refl _ _)
  have X3 := hQ (zb X2.out hb)
  have B3 := hQ (ze B2.out B2.out.size hb)
  have M3 := hQ (Kd.zz M2.out hb)
  have G3 := hQ (Kd.zz G2.out hb)
  have O3 := hQ (Kd.zz O2.out hb)
  clear hb
  refine sq_ (ds := [10, 12, 14]) #[false, false, false, false, false, false, false, false, false, false, false, false, false, false, false] (fun w' => w'.cell? ⟨w.heap.size, 0, none⟩ = some (.slice Am 5 cm) ∧ w'.cell? ⟨w.heap.size, 1, none⟩ = some (.slice Ag 3 cg) ∧ w'.cell? ⟨w.heap.size, 2, none⟩ = some (.int .i64 100) ∧ w'.cell? ⟨w.heap.size, 3, none⟩ = some (.int .i64 1000) ∧ w'.cell? ⟨w.heap.size, 4, none⟩ = some (.int .i64 8) ∧ w'.cell? ⟨w.heap.size, 5, none⟩ = some (.int .i64 8) ∧ w'.cell? ⟨w.heap.size, 6, none⟩ = some (.int .i64 100000) ∧ w'.cell? ⟨w.heap.size, 7, none⟩ = some (.int .i64 500) ∧ w'.cell? ⟨w.heap.size, 8, none⟩ = some (.int .i64 2000) ∧ w'.cell? ⟨w.heap.size, 9, none⟩ = some (.int .i64 1024) ∧ w'.cell? ⟨w.heap.size, 10, none⟩ = some (.int .i64 1024) ∧ w'.cell? ⟨w.heap.size, 11, none⟩ = some (.int .u64 0) ∧ w'.cell? ⟨w.heap.size, 12, none⟩ = some (.slice Ao 3 co)) ⟨za X3.out 0, za X3.out 1, za X3.out 2, za X3.out 3, za X3.out 4, za X3.out 5, za X3.out 6, za X3.out 7, za X3.out 8, za X3.out 9, za X3.out 10, za X3.out 11, za X3.out 12⟩ (fun hHeld => ?_)
  refine pq_ 0 (some 11) ?_
  refine pq_ 3 (some 14) ?_
  refine pq_ 6 (some 17) ?_
  refine tq_ 1 (some 12) hHeld ?_
  refine tq_ 4 (some 15) hHeld ?_
  refine tq_ 7 (some 18) hHeld ?_
  refine oq_ 2 (some 13) (fun K hK => ?_)
  refine yo Tryz.func23 (by kernel_rfl) rfl #[.slice Am 5 cm] (by rfl) rfl rfl (by (try simp only [List.map_toArray, List.map_cons, List.map_nil]); first | done | rfl) ?_
  refine (Wx Am cm _ M3.out HCM.out).mono ?_
  rintro e w4 ⟨A1, k1, rfl, hr, hb⟩
  have P4 := hQ hr
  clear hr
  have X4 := hQ (zb X3.out hb)
  have B4 := hQ (ze B3.out B3.out.size hb)
  have G4 := hQ (Kd.zz G3.out hb)
  have O4 := hQ (Kd.zz O3.out hb)
  clear hb
  refine ⟨_, rfl, ?_⟩
  refine hK.out _ _ ⟨za X4.out 0, za X4.out 1, za X4.out 2, za X4.out 3, za X4.out 4, za X4.out 5, za X4.out 6, za X4.out 7, za X4.out 8, za X4.out 9, za X4.out 10, za X4.out 11, za X4.out 12⟩ (fun hHeld => ?_)
  clear hK K
  refine nq_ ?_
  refine pq_ 9 (some 20) ?_
  refine oq_ 5 (some 16) (fun K hK => ?_)
  refine yo Tryz.func24 (by kernel_rfl) rfl #[.slice Ag 3 cg] (by rfl) rfl rfl (by (try simp only [List.map_toArray, List.map_cons, List.map_nil]); first | done | rfl) ?_
  refine (QM Ag cg _ G4.out HCG.out).mono ?_
  rintro e w5 ⟨A2, k2, rfl, hr, hb⟩
  have Q5 := hQ hr
  clear hr
  have X5 := hQ (zb X4.out hb)
  have B5 := hQ (ze B4.out B4.out.size hb)
  have P5 := hQ (Kd.zy P4.out hb)
  have O5 := hQ (Kd.zz O4.out hb)
  clear hb
  refine ⟨_, rfl, ?_⟩
  refine hK.out _ _ ⟨za X5.out 0, za X5.out 1, za X5.out 2, za X5.out 3, za X5.out 4, za X5.out 5, za X5.out 6, za X5.out 7, za X5.out 8, za X5.out 9, za X5.out 10, za X5.out 11, za X5.out 12⟩ (fun hHeld => ?_)
  clear hK K
  refine nq_ ?_
  refine oq_ 8 (some 19) (fun K hK => ?_)
  refine yo Tryz.func25 (by kernel_rfl) rfl #[.slice Ao 3 co] (by rfl) rfl rfl (by (try simp only [List.map_toArray, List.map_cons, List.map_nil]); first | done | rfl) ?_
  refine (KW Ao co _ O5.out HCO.out).mono ?_
  rintro e w6 ⟨A3, k3, rfl, hr, hb⟩
  clear hr
  have X6 := hQ (zb X5.out hb)
  have B6 := hQ (ze B5.out B5.out.size hb)
  have P6 := hQ (Kd.zy P5.out hb)
  have Q6 := hQ (Kd.zy Q5.out hb)
  clear hb
  obtain ⟨z0, z1, z2, z3, z4, z5, z6, z7, z8, z9, z10, z11, z12⟩ := YV X6.out
  have fz : ∀ i, w6.frozen? ⟨w.heap.size, i, none⟩ = false := fun i => zh X6.out i
  refine ⟨_, rfl, ?_⟩
  refine hK.out _ _ ⟨za X6.out 0, za X6.out 1, za X6.out 2, za X6.out 3, za X6.out 4, za X6.out 5, za X6.out 6, za X6.out 7, za X6.out 8, za X6.out 9, za X6.out 10, za X6.out 11, za X6.out 12⟩ (fun hHeld => ?_)
  clear hK K
  refine nq_ ?_
  refine kr (i := 10) (N := none) #[true, true, true, true, true, true, true, true, true, true, true, false, false, false, false] rfl rfl (by kernel_rfl) (by decide) (fun K hK => ?_)
  refine jJ (w1 := ?_) (by rfl) rfl ?_ ?_
  rotate_left
  · go_simp
    rfl
  refine hK.out _ _ ?_
  clear hK K
  refine pq_ 11 (some 21) ?_
  refine kr (i := 12) (N := none) #[true, true, true, true, true, true, true, true, true, true, true, true, true, false, false] rfl rfl (by kernel_rfl) (by decide) (fun K hK => ?_)
  refine jJ (w1 := ?_) (by rfl) rfl ?_ ?_
  rotate_left
  · go_simp
    rfl
  refine hK.out _ _ ?_
  clear hK K
  refine pq_ 13 (some 22) ?_
  refine kr (i := 14) (N := none) #[true, true, true, true, true, true, true, true, true, true, true, true, true, true, true] rfl rfl (by kernel_rfl) (by decide) (fun K hK => ?_)
  refine jJ (w1 := ?_) (by rfl) rfl ?_ ?_
  rotate_left
  · go_simp
    rfl
  refine hK.out _ _ ?_
  clear hK K
  refine xP (by kernel_rfl) ?_

  have hm0 : ∀ m : Nat, m ∈ ([] : List Nat) → ∃ es c, w6.heap[m]? = some (Obj.map es c) := fun m hm => (by cases hm)
  have e1 := xD (i := 0) (v := .slice A1 5 k1) X6.out
  have e2 := xD (i := 1) (v := .slice A2 3 k2) e1
  have e3 := xD (i := 12) (v := .slice A3 3 k3) e2
  have p1 := (Ch.set (T := [30]) (M := []) (B := 0) (i := 0) X6.out (by decide) (Nat.zero_le _) (fun m hm => (by cases hm)) (.slice A1 5 k1)).R P6.out (by decide)
  have p2 := (Ch.set (T := [30]) (M := []) (B := 0) (i := 1) e1 (by decide) (Nat.zero_le _) (fun m hm => (by cases hm)) (.slice A2 3 k2)).R p1 (by decide)
  have p3 := (Ch.set (T := [30]) (M := []) (B := 0) (i := 12) e2 (by decide) (Nat.zero_le _) (fun m hm => (by cases hm)) (.slice A3 3 k3)).R p2 (by decide)
  have q1 := (Ch.set (T := [30]) (M := []) (B := 0) (i := 0) X6.out (by decide) (Nat.zero_le _) (fun m hm => (by cases hm)) (.slice A1 5 k1)).R Q6.out (by decide)
  have q2 := (Ch.set (T := [30]) (M := []) (B := 0) (i := 1) e1 (by decide) (Nat.zero_le _) (fun m hm => (by cases hm)) (.slice A2 3 k2)).R q1 (by decide)
  have q3 := (Ch.set (T := [30]) (M := []) (B := 0) (i := 12) e2 (by decide) (Nat.zero_le _) (fun m hm => (by cases hm)) (.slice A3 3 k3)).R q2 (by decide)
  obtain ⟨W7, hW7⟩ : ∃ W7, W7 = ((w6.setCell ⟨w.heap.size, 0, none⟩ (.slice A1 5 k1)).setCell ⟨w.heap.size, 1, none⟩ (.slice A2 3 k2)).setCell ⟨w.heap.size, 12, none⟩ (.slice A3 3 k3) := ⟨_, rfl⟩
  have hb : Below W7.heap.size W7 W7.drew := zk (Below.refl _ _)
  have b7 : Below w.heap.size w W7 := by rw [hW7]; exact ((B6.out.setCell (Nat.le_refl _) _).setCell (Nat.le_refl _) _).setCell (Nat.le_refl _) _
  rw [← hW7] at e3 p3 q3 ⊢
  have X7 := hQ (zb (show W7.heap[w.heap.size]? = some (.cells #[.slice A1 5 k1, .slice A2 3 k2, .int .i64 100, .int .i64 1000, .int .i64 8, .int .i64 8, .int .i64 100000, .int .i64 500, .int .i64 2000, .int .i64 1024, .int .i64 1024, .int .u64 0, .slice A3 3 k3] 30 (0, 0)) from e3) hb)
  have B7 := hQ (ze b7 b7.size hb)
  have P7 := hQ (Kd.zy p3 hb)
  have Q7 := hQ (Kd.zy q3 hb)
  clear hb b7 e1 e2 e3 p1 p2 p3 q1 q2 q3 hm0 hW7 hHeld z0 z1 z2 z3 z4 z5 z6 z7 z8 z9 z10 z11 z12 fz X3 B3 M3 G3 O3 X4 B4 G4 O4 P4 X5 B5 P5 Q5 O5 X6 B6 P6 Q6
  go_wp2_with (fail)
  refine sq_ (ds := []) #[false, false, false, false, false, false, false, false, false, false, false, false, false] (fun w' => w'.cell? ⟨w.heap.size, 0, none⟩ = some (.slice A1 5 k1) ∧ w'.cell? ⟨w.heap.size, 1, none⟩ = some (.slice A2 3 k2) ∧ w'.cell? ⟨w.heap.size, 2, none⟩ = some (.int .i64 100) ∧ w'.cell? ⟨w.heap.size, 3, none⟩ = some (.int .i64 1000) ∧ w'.cell? ⟨w.heap.size, 4, none⟩ = some (.int .i64 8) ∧ w'.cell? ⟨w.heap.size, 5, none⟩ = some (.int .i64 8) ∧ w'.cell? ⟨w.heap.size, 6, none⟩ = some (.int .i64 100000) ∧ w'.cell? ⟨w.heap.size, 7, none⟩ = some (.int .i64 500) ∧ w'.cell? ⟨w.heap.size, 8, none⟩ = some (.int .i64 2000) ∧ w'.cell? ⟨w.heap.size, 9, none⟩ = some (.int .i64 1024) ∧ w'.cell? ⟨w.heap.size, 10, none⟩ = some (.int .i64 1024) ∧ w'.cell? ⟨w.heap.size, 11, none⟩ = some (.int .u64 0) ∧ w'.cell? ⟨w.heap.size, 12, none⟩ = some (.slice A3 3 k3)) ⟨za X7.out 0, za X7.out 1, za X7.out 2, za X7.out 3, za X7.out 4, za X7.out 5, za X7.out 6, za X7.out 7, za X7.out 8, za X7.out 9, za X7.out 10, za X7.out 11, za X7.out 12⟩ (fun hHeld => ?_)
  refine pq_ 0 (some 23) ?_
  refine pq_ 2 (some 25) ?_
  refine pq_ 5 (some 28) ?_
  refine pq_ 7 (some 30) ?_
  refine pq_ 9 (some 32) ?_
  refine tq_ 1 (some 24) hHeld ?_
  refine tq_ 3 (some 26) hHeld ?_
  refine tq_ 6 (some 29) hHeld ?_
  refine tq_ 8 (some 31) hHeld ?_
  refine tq_ 10 (some 33) hHeld ?_
  refine oq_ 4 (some 27) (fun K hK => ?_)
  refine yo Tryz.func27 (by kernel_rfl) rfl #[.int .u64 0, .int .i64 100000] (by rfl) rfl rfl (by (try simp only [List.map_toArray, List.map_cons, List.map_nil]); first | done | rfl) ?_
  refine (VO _ B (Nat.le_trans HB.out B7.out.size)).mono ?_
  rintro e w8 ⟨rfl, hs, hz, hb⟩
  have T8 := hQ hs
  have Z8 := hQ hz
  clear hs hz
  have X8 := hQ (zb X7.out hb)
  have B8 := hQ (ze B7.out B7.out.size hb)
  have P8 := hQ (Kd.zy P7.out hb)
  have Q8 := hQ (Kd.zy Q7.out hb)
  clear hb
  refine ⟨_, rfl, ?_⟩
  refine hK.out _ _ ⟨za X8.out 0, za X8.out 1, za X8.out 2, za X8.out 3, za X8.out 4, za X8.out 5, za X8.out 6, za X8.out 7, za X8.out 8, za X8.out 9, za X8.out 10, za X8.out 11, za X8.out 12⟩ (fun hHeld => ?_)
  clear hK K
  refine nq_ ?_
  refine oq_ 11 (some 34) (fun K hK => ?_)
  refine yo Tryz.func26 (by kernel_rfl) rfl #[.pointer (some ⟨W7.drew.heap.size + 1, 0, none⟩), .int .i64 8, .int .i64 500, .int .i64 2000] (by rfl) rfl rfl (by (try simp only [List.map_toArray, List.map_cons, List.map_nil]); first | done | rfl) ?_
  refine (zb9 _ B (W7.drew.heap.size + 1) (Nat.le_trans HB.out B8.out.size)).mono ?_
  rintro e w9 ⟨rfl, hs, hz, hb⟩
  have E9 := hQ hs
  have Z9 := hQ hz
  clear hs hz
  have X9 := hQ (zb X8.out hb)
  have B9 := hQ (ze B8.out B8.out.size hb)
  have T9 := hQ (T8.out.below hb)
  have P9 := hQ (Kd.zy P8.out hb)
  have Q9 := hQ (Kd.zy Q8.out hb)
  clear hb
  refine ⟨_, rfl, ?_⟩
  refine hK.out _ _ ⟨za X9.out 0, za X9.out 1, za X9.out 2, za X9.out 3, za X9.out 4, za X9.out 5, za X9.out 6, za X9.out 7, za X9.out 8, za X9.out 9, za X9.out 10, za X9.out 11, za X9.out 12⟩ (fun hHeld => ?_)
  clear hK K
  refine nq_ ?_
  refine pq_ 12 (some 5) ?_
  refine xP (by kernel_rfl) ?_

  go_wp2_with (fail)
  have hb : Below w9.heap.size w9 w9.drew := zk (Below.refl _ _)
  have X10 := hQ (zb X9.out hb)
  have B10 := hQ (ze B9.out B9.out.size hb)
  have P10 := hQ (Kd.zy P9.out hb)
  have Q10 := hQ (Kd.zy Q9.out hb)
  have T10 := hQ (T9.out.below hb)
  have E10 := hQ (E9.out.below hb)
  clear hb
  refine sq_ (ds := []) #[false, false, false, false, false, false, false, false, false, false, false, false] (fun w' => w'.cell? ⟨w.heap.size, 0, none⟩ = some (.slice A1 5 k1) ∧ w'.cell? ⟨w.heap.size, 1, none⟩ = some (.slice A2 3 k2) ∧ w'.cell? ⟨w.heap.size, 2, none⟩ = some (.int .i64 100) ∧ w'.cell? ⟨w.heap.size, 3, none⟩ = some (.int .i64 1000) ∧ w'.cell? ⟨w.heap.size, 4, none⟩ = some (.int .i64 8) ∧ w'.cell? ⟨w.heap.size, 5, none⟩ = some (.int .i64 8) ∧ w'.cell? ⟨w.heap.size, 6, none⟩ = some (.int .i64 100000) ∧ w'.cell? ⟨w.heap.size, 7, none⟩ = some (.int .i64 500) ∧ w'.cell? ⟨w.heap.size, 8, none⟩ = some (.int .i64 2000) ∧ w'.cell? ⟨w.heap.size, 9, none⟩ = some (.int .i64 1024) ∧ w'.cell? ⟨w.heap.size, 10, none⟩ = some (.int .i64 1024) ∧ w'.cell? ⟨w.heap.size, 11, none⟩ = some (.int .u64 0) ∧ w'.cell? ⟨w.heap.size, 12, none⟩ = some (.slice A3 3 k3)) ⟨za X10.out 0, za X10.out 1, za X10.out 2, za X10.out 3, za X10.out 4, za X10.out 5, za X10.out 6, za X10.out 7, za X10.out 8, za X10.out 9, za X10.out 10, za X10.out 11, za X10.out 12⟩ (fun hHeld => ?_)
  refine pq_ 1 (some 36) ?_
  refine pq_ 4 (some 39) ?_
  refine pq_ 5 (some 40) ?_
  refine tq_ 0 (some 35) hHeld ?_
  refine tq_ 2 (some 37) hHeld ?_
  refine tq_ 6 (some 41) hHeld ?_
  refine oq_ 3 (some 38) (fun K hK => ?_)
  refine yo Tryz.func28 (by kernel_rfl) rfl #[.int .i64 8] (by rfl) rfl rfl (by (try simp only [List.map_toArray, List.map_cons, List.map_nil]); first | done | rfl) ?_
  refine (zaj _).mono ?_
  rintro e w11 ⟨rfl, hs, hz, hb⟩
  have D11 := hQ hs
  have Z11 := hQ hz
  clear hs hz
  have X11 := hQ (zb X10.out hb)
  have B11 := hQ (ze B10.out B10.out.size hb)
  have T11 := hQ (T10.out.below hb)
  have E11 := hQ (E10.out.below hb)
  have P11 := hQ (Kd.zy P10.out hb)
  have Q11 := hQ (Kd.zy Q10.out hb)
  clear hb
  refine ⟨_, rfl, ?_⟩
  refine hK.out _ _ ⟨za X11.out 0, za X11.out 1, za X11.out 2, za X11.out 3, za X11.out 4, za X11.out 5, za X11.out 6, za X11.out 7, za X11.out 8, za X11.out 9, za X11.out 10, za X11.out 11, za X11.out 12⟩ (fun hHeld => ?_)
  clear hK K
  refine nq_ ?_
  refine oq_ 7 (some 42) (fun K hK => ?_)
  refine yo Tryz.func29 (by kernel_rfl) rfl #[.pointer (some ⟨w8.heap.size + 1, 0, none⟩), .int .i64 1000] (by rfl) rfl rfl (by (try simp only [List.map_toArray, List.map_cons, List.map_nil]); first | done | rfl) ?_
  refine (zat _ B (w8.heap.size + 1) (Nat.le_trans HB.out B11.out.size)).mono ?_
  rintro e w12 ⟨rfl, hbk, hs, hz, hb⟩
  have K12 := hQ hbk
  have S12 := hQ hs
  have Z12 := hQ hz
  clear hs hz hbk
  have X12 := hQ (zb X11.out hb)
  have B12 := hQ (ze B11.out B11.out.size hb)
  have T12 := hQ (T11.out.below hb)
  have E12 := hQ (E11.out.below hb)
  have D12 := hQ (D11.out.below hb)
  have P12 := hQ (Kd.zy P11.out hb)
  have Q12 := hQ (Kd.zy Q11.out hb)
  clear hb
  refine ⟨_, rfl, ?_⟩
  refine hK.out _ _ ⟨za X12.out 0, za X12.out 1, za X12.out 2, za X12.out 3, za X12.out 4, za X12.out 5, za X12.out 6, za X12.out 7, za X12.out 8, za X12.out 9, za X12.out 10, za X12.out 11, za X12.out 12⟩ (fun hHeld => ?_)
  clear hK K
  refine nq_ ?_
  refine oq_ 8 (some 43) (fun K hK => ?_)
  obtain ⟨ga, hga⟩ : ∃ ga : Array Value, ga = (((((((((((((((Tryz.zeroCells98.setIfInBounds 0 (.slice A1 5 k1)).setIfInBounds 1 (.slice A2 3 k2)).setIfInBounds 2 (.int .i64 100)).setIfInBounds 3 (.int .i64 1000)).setIfInBounds 4 (.int .i64 8)).setIfInBounds 5 (.int .i64 8)).setIfInBounds 6 (.int .i64 100000)).setIfInBounds 7 (.int .i64 500)).setIfInBounds 8 (.int .i64 2000)).setIfInBounds 9 (.int .i64 1024)).setIfInBounds 10 (.int .i64 1024)).setIfInBounds 11 (.int .u64 0)).setIfInBounds 12 (.slice A3 3 k3)).setIfInBounds 13 (.pointer (some ⟨w9.heap.size, 0, none⟩))).setIfInBounds 14 (.pointer (some ⟨w11.heap.size + 3, 0, none⟩))) := ⟨_, rfl⟩
  have hgs : ga.size = 79 := by rw [hga]; simp only [Array.size_setIfInBounds]; kernel_rfl
  refine jW (w1 := ?_) (v := ?_) (by rfl) rfl ?_ ?_
  rotate_left 2
  · go_simp
    rw [← hga]
    constructor
    · rfl
    · rfl
  have HGA := hQ hga
  clear hga
  refine hK.out _ _ ⟨za X12.out 0, za X12.out 1, za X12.out 2, za X12.out 3, za X12.out 4, za X12.out 5, za X12.out 6, za X12.out 7, za X12.out 8, za X12.out 9, za X12.out 10, za X12.out 11, za X12.out 12⟩ (fun hHeld => ?_)
  clear hK K
  refine nq_ ?_
  refine oq_ 9 (some 44) (fun K hK => ?_)
  refine jW (w1 := ?_) (v := ?_) (by rfl) rfl ?_ ?_
  rotate_left 2
  · go_simp
    constructor
    · rfl
    · rfl
  have X13 := hQ (zg X12.out (.cells ga 98))
  refine hK.out _ _ ⟨za X13.out 0, za X13.out 1, za X13.out 2, za X13.out 3, za X13.out 4, za X13.out 5, za X13.out 6, za X13.out 7, za X13.out 8, za X13.out 9, za X13.out 10, za X13.out 11, za X13.out 12⟩ (fun hHeld => ?_)
  clear hK K
  refine nq_ ?_
  refine pq_ 10 (some 2) ?_
  refine pq_ 11 (some 3) ?_
  refine xP (by kernel_rfl) ?_

  have hb : Below w12.heap.size w12 (w12.alloc (.cells ga 98)) := (Below.refl _ _).alloc (Nat.le_refl _) _
  have hcs : GCs ga (.slice A1 5 k1) (.slice A2 3 k2) (.slice A3 3 k3) w9.heap.size (w11.heap.size + 3) 0 (fun _ _ => 0) := by rw [HGA.out]; exact zai _ _ _ _ _ _
  have hcf : qF (w12.alloc (.cells ga 98)) (.slice A1 5 k1) (.slice A2 3 k2) := ⟨⟨A1, k1, rfl, Kd.zU (Kd.zy P12.out hb) (Nat.zero_le _)⟩, A2, k2, rfl, Kd.zU (Kd.zy Q12.out hb) (Nat.zero_le _)⟩
  have z8 := Z8.out
  have z9 := Z9.out
  have z11 : w11.heap.size = w9.heap.size + 1 := Z11.out
  have z12 := Z12.out
  have hslv : ym (w12.alloc (.cells ga 98)) B 0 ⟨w11.heap.size + 3, w8.heap.size + 1, W7.drew.heap.size + 1, w11.heap.size + 1, w11.heap.size + 2, w8.heap.size, W7.drew.heap.size, w11.heap.size, 1000, 8, 500, 2000⟩ ⟨⟨0, 0, 100000, fun _ => []⟩, 0, fun _ => none, fun _ => none⟩ :=
    ⟨T12.out.below hb, E12.out.below hb, K12.out.below hb, S12.out.below hb, ⟨by show w11.heap.size + 2 ≠ w8.heap.size; omega, by show w11.heap.size + 2 ≠ W7.drew.heap.size; omega, by show w11.heap.size + 2 ≠ w11.heap.size; omega, by show w8.heap.size ≠ W7.drew.heap.size; omega, by show w8.heap.size ≠ w11.heap.size; omega, by show W7.drew.heap.size ≠ w11.heap.size; omega⟩⟩
  have hfin : zdm w (w12.alloc (.cells ga 98)) B w12.heap.size :=
    ⟨⟨w9.heap.size, _, fun _ _ => 0, ⟨⟨ga, _, _, _, zi w12 _, hcs, hcf⟩, D12.out.below hb, hslv, fun c hc => absurd hc (Nat.not_lt_zero _), fun c hc => absurd hc (Nat.not_lt_zero _), fun c i hc => absurd hc (Nat.not_lt_zero _), fun c c' i j hc => absurd hc (Nat.not_lt_zero _)⟩, Nat.le_trans HB.out B9.out.size, ⟨rfl, rfl, rfl, rfl⟩⟩, Nat.le_trans HB.out B12.out.size, B12.out.alloc B12.out.size _⟩
  have HFIN := hQ hfin
  clear hfin hslv hcf hcs hb z8 z9 z11 z12 hHeld hgs
  go_wp2
  refine bodyPost_ret (v := .tuple #[.pointer (some ⟨w12.heap.size, 0, none⟩), .int .i64 0]) (by simp [results, Tryz.results14, go_sem]) rfl ⟨w12.heap.size, rfl, HFIN.out⟩
open Go.Proofs.YtlalbohhopmpdaaGreat.Ring (yM yw yN xZ)
open Go.Proofs.YtlalbohhopmpdaaGreat.LemHeadTop Go.Proofs.YtlalbohhopmpdaaGreat.LemAduTop
def G0 : Sg := ⟨⟨0, 0, 100000, fun _ => []⟩, 0, fun _ => none, fun _ => none⟩
def Vt (w w' : World) (tb n : Nat) : Prop := ∃ gb dk x L, xk w' w.heap.size 0 x G0 tb gb dk n L 0 ∧ (x.most = 8 ∧ x.spans = 500 ∧ x.writes = 2000 ∧ x.ticks = 1000) ∧ Below w.heap.size w w'
theorem JS (w : World) (Am Ag Ao : Option Addr) (cm cg co : Nat) (hM : Kd.C k78 w Am 5 yD) (hcm : 5 ≤ cm) (hG : Kd.C k81 w Ag 3 yl) (hcg : 3 ≤ cg) (hO : Kd.C k84 w Ao 3 ql) (hco : 3 ≤ co) :
    Calls Tryz.prog 6 #[.agg (xA (.slice Am 5 cm) (.slice Ag 3 cg) (.slice Ao 3 co)), .int .i64 2] w fun e w' => ∃ tb, e = .returned (.pointer (some ⟨tb, 0, none⟩)) ∧ Vt w w' tb 2 := by
  have hu30 := Tryz.underlying30
  have hu61 := Tryz.underlying61
  have B1 := hQ (show Below w.heap.size w (w.alloc (.cells (xA (.slice Am 5 cm) (.slice Ag 3 cg) (.slice Ao 3 co)) 30)) from (Below.refl _ _).alloc (Nat.le_refl _) _)
  have X1 := hQ (zi w (.cells (xA (.slice Am 5 cm) (.slice Ag 3 cg) (.slice Ao 3 co)) 30))
  have hN := Ju _ w.heap.size B1.out.size Am Ag Ao cm cg co (Kd.zz hM B1.out) hcm (Kd.zz hG B1.out) hcg (Kd.zz hO B1.out) hco
  clear hM hG hO hcm hcg hco
  simp only [xA] at B1 X1 hN ⊢
  obtain ⟨z0, z1, z2, z3, z4, z5, z6, z7, z8, z9, z10, z11, z12⟩ := YV X1.out
  go_enter Tryz.func6, Tryz.ntmps6
  go_wp2_with (fail)
  refine hN.mono ?_
  rintro e w3 ⟨gb, rfl, ⟨dk, x, L0, hg, hdk, hx⟩, hgb, hbw⟩
  have G3 := hQ hg
  have HDK := hQ hdk
  have HGB := hQ hgb
  have HX := hQ hx
  have E3 := hQ (ze B1.out B1.out.size hbw)
  clear hg hdk hgb hx hbw z0 z1 z2 z3 z4 z5 z6 z7 z8 z9 z10 z11 z12
  go_wp2_with (fail)
  refine wp_loop_rounds 3 ?_
  rw [rounds_succ]
  go_wp2_with (fail)
  refine (Xw w3 w.heap.size 0 x _ gb dk L0 G3.out HGB.out HDK.out).mono ?_
  rintro e w40 ⟨rfl, ⟨L1, hg⟩, hc⟩
  have hbw : Below w40.heap.size w40 (w40.alloc (.cells #[.bool true, .int .i64 0, .slice none 0 0] 61)) := (Below.refl _ _).alloc (Nat.le_refl _) _
  obtain ⟨w4, hw4⟩ : ∃ w4, w4 = w40.alloc (.cells #[.bool true, .int .i64 0, .slice none 0 0] 61) := ⟨_, rfl⟩
  rw [← hw4] at hbw
  have G4 := hQ (hg.below hbw)
  have E4 := hQ (ze (hc.below E3.out) (Nat.le_trans E3.out.size hc.size) hbw)
  have Z4 := hQ (show w4.heap[w40.heap.size]? = some (.cells #[.bool true, .int .i64 0, .slice none 0 0] 61 (0, 0)) by rw [hw4]; exact zi _ _)
  clear hg hc hbw
  obtain ⟨u0, u1, u2⟩ := kK Z4.out
  rw [hw4] at u0 u1 u2
  go_wp2_with (fail)
  rw [← hw4] at u0 u1 u2 ⊢
  clear u0 u1 u2 hw4
  rw [rounds_succ]
  go_wp2_with (fail)
  refine (XO w4 w.heap.size 0 x _ gb dk L1 G4.out HGB.out HDK.out).mono ?_
  rintro e w50 ⟨rfl, ⟨L2, hg⟩, hc⟩
  have hbw : Below w50.heap.size w50 (w50.alloc (.cells #[.bool true, .int .i64 1, .slice none 0 0] 61)) := (Below.refl _ _).alloc (Nat.le_refl _) _
  obtain ⟨w5, hw5⟩ : ∃ w5, w5 = w50.alloc (.cells #[.bool true, .int .i64 1, .slice none 0 0] 61) := ⟨_, rfl⟩
  rw [← hw5] at hbw
  have G5 := hQ (hg.below hbw)
  have E5 := hQ (ze (hc.below E4.out) (Nat.le_trans E4.out.size hc.size) hbw)
  have Z5 := hQ (show w5.heap[w50.heap.size]? = some (.cells #[.bool true, .int .i64 1, .slice none 0 0] 61 (0, 0)) by rw [hw5]; exact zi _ _)
  clear hg hc hbw
  obtain ⟨u0, u1, u2⟩ := kK Z5.out
  rw [hw5] at u0 u1 u2
  go_wp2_with (fail)
  rw [← hw5] at u0 u1 u2 ⊢
  clear u0 u1 u2 hw5
  rw [rounds_succ]
  have hbw : Below w5.heap.size w5 (w5.alloc (.cells #[.pointer (some ⟨gb, 0, none⟩), .int .i64 0] 53)) := (Below.refl _ _).alloc (Nat.le_refl _) _
  have hfin : Vt w (w5.alloc (.cells #[.pointer (some ⟨gb, 0, none⟩), .int .i64 0] 53)) w5.heap.size 2 := ⟨gb, dk, x, L2, ⟨zi _ _, G5.out.below hbw, E5.out.size⟩, HX.out, ze E5.out E5.out.size hbw⟩
  have HF := hQ hfin
  clear hfin hbw
  go_wp2_with (fail)
  exact bodyPost_ret (v := .pointer (some ⟨w5.heap.size, 0, none⟩)) (by simp [results, Tryz.results6, go_sem]) rfl ⟨w5.heap.size, rfl, HF.out⟩
theorem kL (w : World) (Am Ag Ao : Option Addr) (cm cg co : Nat) (hM : Kd.C k78 w Am 5 yD) (hcm : 5 ≤ cm) (hG : Kd.C k81 w Ag 3 yl) (hcg : 3 ≤ cg) (hO : Kd.C k84 w Ao 3 ql) (hco : 3 ≤ co) :
    Calls Tryz.prog 6 #[.agg (xA (.slice Am 5 cm) (.slice Ag 3 cg) (.slice Ao 3 co)), .int .i64 3] w fun e w' => ∃ tb, e = .returned (.pointer (some ⟨tb, 0, none⟩)) ∧ Vt w w' tb 3 := by
  have hu30 := Tryz.underlying30
  have hu61 := Tryz.underlying61
  have B1 := hQ (show Below w.heap.size w (w.alloc (.cells (xA (.slice Am 5 cm) (.slice Ag 3 cg) (.slice Ao 3 co)) 30)) from (Below.refl _ _).alloc (Nat.le_refl _) _)
  have X1 := hQ (zi w (.cells (xA (.slice Am 5 cm) (.slice Ag 3 cg) (.slice Ao 3 co)) 30))
  have hN := Ju _ w.heap.size B1.out.size Am Ag Ao cm cg co (Kd.zz hM B1.out) hcm (Kd.zz hG B1.out) hcg (Kd.zz hO B1.out) hco
  clear hM hG hO hcm hcg hco
  simp only [xA] at B1 X1 hN ⊢
  obtain ⟨z0, z1, z2, z3, z4, z5, z6, z7, z8, z9, z10, z11, z12⟩ := YV X1.out
  go_enter Tryz.func6, Tryz.ntmps6
  go_wp2_with (fail)
  refine hN.mono ?_
  rintro e w3 ⟨gb, rfl, ⟨dk, x, L0, hg, hdk, hx⟩, hgb, hbw⟩
  have G3 := hQ hg
  have HDK := hQ hdk
  have HGB := hQ hgb
  have HX := hQ hx
  have E3 := hQ (ze B1.out B1.out.size hbw)
  clear hg hdk hgb hx hbw z0 z1 z2 z3 z4 z5 z6 z7 z8 z9 z10 z11 z12
  go_wp2_with (fail)
  refine wp_loop_rounds 4 ?_
  rw [rounds_succ]
  go_wp2_with (fail)
  refine (Xw w3 w.heap.size 0 x _ gb dk L0 G3.out HGB.out HDK.out).mono ?_
  rintro e w40 ⟨rfl, ⟨L1, hg⟩, hc⟩
  have hbw : Below w40.heap.size w40 (w40.alloc (.cells #[.bool true, .int .i64 0, .slice none 0 0] 61)) := (Below.refl _ _).alloc (Nat.le_refl _) _
  obtain ⟨w4, hw4⟩ : ∃ w4, w4 = w40.alloc (.cells #[.bool true, .int .i64 0, .slice none 0 0] 61) := ⟨_, rfl⟩
  rw [← hw4] at hbw
  have G4 := hQ (hg.below hbw)
  have E4 := hQ (ze (hc.below E3.out) (Nat.le_trans E3.out.size hc.size) hbw)
  have Z4 := hQ (show w4.heap[w40.heap.size]? = some (.cells #[.bool true, .int .i64 0, .slice none 0 0] 61 (0, 0)) by rw [hw4]; exact zi _ _)
  clear hg hc hbw
  obtain ⟨u0, u1, u2⟩ := kK Z4.out
  rw [hw4] at u0 u1 u2
  go_wp2_with (fail)
  rw [← hw4] at u0 u1 u2 ⊢
  clear u0 u1 u2 hw4
  rw [rounds_succ]
  go_wp2_with (fail)
  refine (XO w4 w.heap.size 0 x _ gb dk L1 G4.out HGB.out HDK.out).mono ?_
  rintro e w50 ⟨rfl, ⟨L2, hg⟩, hc⟩
  have hbw : Below w50.heap.size w50 (w50.alloc (.cells #[.bool true, .int .i64 1, .slice none 0 0] 61)) := (Below.refl _ _).alloc (Nat.le_refl _) _
  obtain ⟨w5, hw5⟩ : ∃ w5, w5 = w50.alloc (.cells #[.bool true, .int .i64 1, .slice none 0 0] 61) := ⟨_, rfl⟩
  rw [← hw5] at hbw
  have G5 := hQ (hg.below hbw)
  have E5 := hQ (ze (hc.below E4.out) (Nat.le_trans E4.out.size hc.size) hbw)
  have Z5 := hQ (show w5.heap[w50.heap.size]? = some (.cells #[.bool true, .int .i64 1, .slice none 0 0] 61 (0, 0)) by rw [hw5]; exact zi _ _)
  clear hg hc hbw
  obtain ⟨u0, u1, u2⟩ := kK Z5.out
  rw [hw5] at u0 u1 u2
  go_wp2_with (fail)
  rw [← hw5] at u0 u1 u2 ⊢
  clear u0 u1 u2 hw5
  rw [rounds_succ]
  go_wp2_with (fail)
  refine (Wd w5 w.heap.size 0 x _ gb dk L2 G5.out HGB.out HDK.out).mono ?_
  rintro e w60 ⟨rfl, ⟨L3, hg⟩, hc⟩
  have hbw : Below w60.heap.size w60 (w60.alloc (.cells #[.bool true, .int .i64 2, .slice none 0 0] 61)) := (Below.refl _ _).alloc (Nat.le_refl _) _
  obtain ⟨w6, hw6⟩ : ∃ w6, w6 = w60.alloc (.cells #[.bool true, .int .i64 2, .slice none 0 0] 61) := ⟨_, rfl⟩
  rw [← hw6] at hbw
  have G6 := hQ (hg.below hbw)
  have E6 := hQ (ze (hc.below E5.out) (Nat.le_trans E5.out.size hc.size) hbw)
  have Z6 := hQ (show w6.heap[w60.heap.size]? = some (.cells #[.bool true, .int .i64 2, .slice none 0 0] 61 (0, 0)) by rw [hw6]; exact zi _ _)
  clear hg hc hbw
  obtain ⟨u0, u1, u2⟩ := kK Z6.out
  rw [hw6] at u0 u1 u2
  go_wp2_with (fail)
  rw [← hw6] at u0 u1 u2 ⊢
  clear u0 u1 u2 hw6
  rw [rounds_succ]
  have hbw : Below w6.heap.size w6 (w6.alloc (.cells #[.pointer (some ⟨gb, 0, none⟩), .int .i64 0] 53)) := (Below.refl _ _).alloc (Nat.le_refl _) _
  have hfin : Vt w (w6.alloc (.cells #[.pointer (some ⟨gb, 0, none⟩), .int .i64 0] 53)) w6.heap.size 3 := ⟨gb, dk, x, L3, ⟨zi _ _, G6.out.below hbw, E6.out.size⟩, HX.out, ze E6.out E6.out.size hbw⟩
  have HF := hQ hfin
  clear hfin hbw
  go_wp2_with (fail)
  exact bodyPost_ret (v := .pointer (some ⟨w6.heap.size, 0, none⟩)) (by simp [results, Tryz.results6, go_sem]) rfl ⟨w6.heap.size, rfl, HF.out⟩
theorem ji (w : World) (m : Int) (hm : 0 ≤ m ∧ m < 256) :
    Calls Tryz.prog 9 #[.int .i64 m] w fun e w' => e = .returned (qd 100 m) ∧ Below w.heap.size w w' := by
  have hu37 := Tryz.underlying37
  have hw := je m 65536 (by omega)
  have hu : IntKind.u16.wrap m = m := by show m % 65536 = m; omega
  have X1 := hQ (zi w (.cells yL 37))
  have B1 := hQ (show Below w.heap.size w (w.alloc (.cells yL 37)) from (Below.refl _ _).alloc (Nat.le_refl _) _)
  clear hm
  simp only [qd, yL] at X1 B1 ⊢
  go_enter Tryz.func9, Tryz.ntmps9
  go_wp2_with (fail)
  refine (zG.calls m 65536 m _ hw).mono ?_
  rintro e w2 ⟨rfl, hd⟩
  have B2 := hQ (ze B1.out B1.out.size hd.below)
  have X2 := hQ (zb X1.out hd.below)
  clear hd
  obtain ⟨x0, x1, x2, x3, x4, x5, x6, x7, x8, x9, x10, x11⟩ := zW X2.out
  have fx : ∀ i, w2.frozen? ⟨w.heap.size, i, none⟩ = false := fun i => zh X2.out i
  go_wp2
  refine bodyPost_ret (v := .agg #[.int .i64 6, .int .i64 100, .int .i64 0, .int .u16 m, .int .u16 0, .int .u16 0, .slice none 0 0, .slice none 0 0, .int .i64 0, .int .i64 0, .int .i64 0, .int .i64 0]) ?_ rfl ⟨rfl, B2.out.trans ?_⟩
  · simp [results, Tryz.results9, go_sem, hu37, x0, x1, x2, x3, x4, x5, x6, x7, x8, x9, x10, x11]
  · (repeat (with_reducible first | exact Below.refl _ _ | (refine jc ?_ (by omega))))
def wG1 : Sg := (G0.put 0 ⟨0, [], []⟩).turn 0 (1, 0, 0)
def wG2 : Sg := wG1.put 0 ⟨0, [], [⟨⟨2, 2⟩, 7⟩]⟩
def wG3 : Sg := wG2.scommit 0 ⟨0, [], [⟨⟨2, 2⟩, 7⟩]⟩
theorem ok0 : ky wG2.s.ch := fun k => ⟨List.Pairwise.nil, Nat.zero_le _⟩
theorem ok1 : ky wG3.s.ch := by
  intro k
  have h : wG3.s.ch k = if k = (2, 2) then [⟨1, 7⟩] else [] := rfl
  rw [h]
  split
  · exact ⟨List.pairwise_singleton _ _, by decide⟩
  · exact ⟨List.Pairwise.nil, Nat.zero_le _⟩
theorem zcn {w : World} {base : Nat} {ok : Nat → Prop} {A : Option Addr} {n c : Nat} {x : Int} (h : Kd.R (Kd.int .u16) 33 w base ok (.slice A n c) [x]) : ∃ g, A = some ⟨g, 0, none⟩ ∧ w.cell? ⟨g, 0, none⟩ = some (.int .u16 x) := by
  obtain ⟨g, cap, e, _, _, _⟩ := Kd.xX h (by simp)
  injection e with e _ _
  refine ⟨g, e, ?_⟩
  have hC := (Kd.zw h).2.2
  have hl := hC.1
  obtain ⟨ad, e1, hr⟩ := hC.2.2 (by rw [← hl]; exact Nat.zero_lt_one)
  rw [e] at e1
  injection e1 with e1
  subst e1
  obtain ⟨c, h1, h2, h3⟩ := hr 0 x rfl
  obtain rfl : c = [Value.int .u16 x] := h2
  have := h3 0 _ rfl
  rw [← this]
  rfl
theorem QJ {w : World} {base : Nat} {ok : Nat → Prop} {A : Option Addr} {n c : Nat} {x y : Int} (h : Kd.R (Kd.int .u16) 33 w base ok (.slice A n c) [x, y]) : ∃ g, A = some ⟨g, 0, none⟩ ∧ w.cell? ⟨g, 0, none⟩ = some (.int .u16 x) ∧ w.cell? ⟨g, 1, none⟩ = some (.int .u16 y) := by
  obtain ⟨g, cap, e, _, _, _⟩ := Kd.xX h (by simp)
  injection e with e _ _
  have hC := (Kd.zw h).2.2
  have hl := hC.1
  obtain ⟨ad, e1, hr⟩ := hC.2.2 (by rw [← hl]; exact Nat.zero_lt_succ _)
  rw [e] at e1
  injection e1 with e1
  subst e1
  refine ⟨g, e, ?_, ?_⟩
  · obtain ⟨c, h1, h2, h3⟩ := hr 0 x rfl
    obtain rfl : c = [Value.int .u16 x] := h2
    have := h3 0 _ rfl
    rw [← this]
    rfl
  · obtain ⟨c, h1, h2, h3⟩ := hr 1 y rfl
    obtain rfl : c = [Value.int .u16 y] := h2
    have := h3 0 _ rfl
    rw [← this]
    rfl
theorem kR (w : World) : Calls Tryz.prog 5 #[] w fun e w' => e = .returned (.bool true) ∧ Below w.heap.size w w' := by
  have hu41 := Tryz.underlying41
  have hOrd1 := fun w : World => ji w 1 (by omega)
  have hOrd2 := fun w : World => ji w 2 (by omega)
  simp only [qd] at hOrd1 hOrd2
  go_enter Tryz.func5, Tryz.ntmps5
  go_wp2_with (fail)
  refine (Xd _).mono ?_
  rintro e w2 ⟨v0, v1, v12, rfl, h0, h1, h2, hb2⟩
  obtain ⟨Am, cm, rfl⟩ := Kd.zX h0
  obtain ⟨Ag, cg, rfl⟩ := Kd.zX h1
  obtain ⟨Ao, co, rfl⟩ := Kd.zX h2
  have hO := JS w2 Am Ag Ao cm cg co (Kd.zw h0).2.2 (Kd.zw h0).2.1 (Kd.zw h1).2.2 (Kd.zw h1).2.1 (Kd.zw h2).2.2 (Kd.zw h2).2.1
  have B2 := hQ hb2
  clear h0 h1 h2 hb2
  go_wp2_with (fail)
  refine hO.mono ?_
  rintro e w3 ⟨tb, rfl, gb, dk, x, L, hT, hx, hb3⟩
  have T3 := hQ hT
  have HX := hQ hx
  have E3 := hQ hb3
  clear hT hx hb3 hO
  go_wp2_with (fail)
  refine (hOrd1 _).mono ?_
  rintro e o0 ⟨rfl, hbw⟩
  have T0_ := hQ (T3.out.below hbw)
  have E0_ := hQ (ze E3.out E3.out.size hbw)
  clear hbw
  go_wp2_with (fail)
  have T := T0_.out
  have hs : zR _ _ 4 _ wG1 _ _ _ 2 _ 0 0 _ _ _ _ _ _ _ _ := Zh T (by omega) (by omega) 0 (by decide) rfl (by decide) (by rw [HX.out.1]; decide)
  clear T
  simp only [zR, zT, zI] at hs
  refine hs.mono ?_
  rintro e v0 ⟨A0, q0, rfl, hr, hT, hc⟩
  have hE := ze (hc.below E0_.out) (Nat.le_trans E0_.out.size hc.size) (zn (Below.refl _ _) (.cells #[.int .i64 6, .int .i64 0, .slice none 0 0, .slice A0 0 q0, .int .i64 100, .int .i64 0, .int .u16 1, .int .u16 0, .int .u16 0, .int .i64 0, .int .i64 0, .bool false, .int .i64 0, .slice none 0 0] 41))
  have hbw : Below v0.heap.size v0 (v0.alloc (.cells #[.int .i64 6, .int .i64 0, .slice none 0 0, .slice A0 0 q0, .int .i64 100, .int .i64 0, .int .u16 1, .int .u16 0, .int .u16 0, .int .i64 0, .int .i64 0, .bool false, .int .i64 0, .slice none 0 0] 41)) := (Below.refl _ _).alloc (Nat.le_refl _) _
  have T10 := hQ (hT.below hbw)
  have E10 := hQ hE
  have Z0 := hQ (zi v0 (.cells #[.int .i64 6, .int .i64 0, .slice none 0 0, .slice A0 0 q0, .int .i64 100, .int .i64 0, .int .u16 1, .int .u16 0, .int .u16 0, .int .i64 0, .int .i64 0, .bool false, .int .i64 0, .slice none 0 0] 41))
  clear hs hr hT hc hE hbw
  go_wp2_with (fail)
  have T := T10.out
  have hs : zR _ _ 6 _ wG2 _ _ _ 2 _ 1 0 _ _ _ _ _ _ _ _ := Zn T (by omega) (by omega) 0 (by decide) 2 7 (by decide) (by omega) rfl 0 [] (by decide) rfl HX.out.2.2.1
  clear T
  simp only [zR, zT, zI] at hs
  refine hs.mono ?_
  rintro e v1 ⟨A1, q1, rfl, hr, hT, hc⟩
  have hE := ze (hc.below E10.out) (Nat.le_trans E10.out.size hc.size) (zn (Below.refl _ _) (.cells #[.int .i64 6, .int .i64 0, .slice none 0 0, .slice A1 0 q1, .int .i64 2, .int .i64 0, .int .u16 7, .int .u16 0, .int .u16 0, .int .i64 0, .int .i64 0, .bool false, .int .i64 0, .slice none 0 0] 41))
  have hbw : Below v1.heap.size v1 (v1.alloc (.cells #[.int .i64 6, .int .i64 0, .slice none 0 0, .slice A1 0 q1, .int .i64 2, .int .i64 0, .int .u16 7, .int .u16 0, .int .u16 0, .int .i64 0, .int .i64 0, .bool false, .int .i64 0, .slice none 0 0] 41)) := (Below.refl _ _).alloc (Nat.le_refl _) _
  replace Z0 := hQ (zb (hc.cell Z0.out (by decide)) hbw)
  have T11 := hQ (hT.below hbw)
  have E11 := hQ hE
  have Z1 := hQ (zi v1 (.cells #[.int .i64 6, .int .i64 0, .slice none 0 0, .slice A1 0 q1, .int .i64 2, .int .i64 0, .int .u16 7, .int .u16 0, .int .u16 0, .int .i64 0, .int .i64 0, .bool false, .int .i64 0, .slice none 0 0] 41))
  clear hs hr hT hc hE hbw
  go_wp2_with (fail)
  have T := T11.out
  have hs : zR _ _ 7 _ wG2 _ _ _ 2 _ 2 1 _ _ _ _ _ _ _ _ := XM T (by omega) (by omega) 1 (by decide) 2 0 (by decide) (by omega) ok0 rfl rfl
  clear T
  simp only [zR, zT, zI] at hs
  refine hs.mono ?_
  rintro e v2 ⟨A2, q2, rfl, hr, hT, hc⟩
  have hE := ze (hc.below E11.out) (Nat.le_trans E11.out.size hc.size) (zn (Below.refl _ _) (.cells #[.int .i64 3, .int .i64 0, .slice none 0 0, .slice A2 1 q2, .int .i64 0, .int .i64 0, .int .u16 0, .int .u16 0, .int .u16 0, .int .i64 0, .int .i64 0, .bool false, .int .i64 0, .slice none 0 0] 41))
  have hbw : Below v2.heap.size v2 (v2.alloc (.cells #[.int .i64 3, .int .i64 0, .slice none 0 0, .slice A2 1 q2, .int .i64 0, .int .i64 0, .int .u16 0, .int .u16 0, .int .u16 0, .int .i64 0, .int .i64 0, .bool false, .int .i64 0, .slice none 0 0] 41)) := (Below.refl _ _).alloc (Nat.le_refl _) _
  replace Z0 := hQ (zb (hc.cell Z0.out (by decide)) hbw)
  replace Z1 := hQ (zb (hc.cell Z1.out (by decide)) hbw)
  have T12 := hQ (hT.below hbw)
  have E12 := hQ hE
  have Z2 := hQ (zi v2 (.cells #[.int .i64 3, .int .i64 0, .slice none 0 0, .slice A2 1 q2, .int .i64 0, .int .i64 0, .int .u16 0, .int .u16 0, .int .u16 0, .int .i64 0, .int .i64 0, .bool false, .int .i64 0, .slice none 0 0] 41))
  have R2 := hQ (Kd.zy hr hbw)
  clear hs hr hT hc hE hbw
  go_wp2_with (fail)
  refine (hOrd2 _).mono ?_
  rintro e o3 ⟨rfl, hbw⟩
  have T3_ := hQ (T12.out.below hbw)
  have E3_ := hQ (ze E12.out E12.out.size hbw)
  replace Z0 := hQ (zb Z0.out hbw)
  replace Z1 := hQ (zb Z1.out hbw)
  replace Z2 := hQ (zb Z2.out hbw)
  replace R2 := hQ (Kd.zy R2.out hbw)
  clear hbw
  go_wp2_with (fail)
  have T := T3_.out
  have hs : zR _ _ 10 _ wG3 _ _ _ 2 _ 3 0 _ _ _ _ _ _ _ _ := jY T (by omega) (by omega) 0 (by decide) ok0 rfl 0 [] ⟨⟨2, 2⟩, 7⟩ rfl (.inl rfl) ⟨rfl, by decide, by decide⟩ (by decide) (by decide) rfl
  clear T
  simp only [zR, zT, zI] at hs
  refine hs.mono ?_
  rintro e v3 ⟨A3, q3, rfl, hr, hT, hc⟩
  have hE := ze (hc.below E3_.out) (Nat.le_trans E3_.out.size hc.size) (zn (Below.refl _ _) (.cells #[.int .i64 6, .int .i64 0, .slice none 0 0, .slice A3 0 q3, .int .i64 100, .int .i64 0, .int .u16 2, .int .u16 0, .int .u16 0, .int .i64 0, .int .i64 0, .bool false, .int .i64 0, .slice none 0 0] 41))
  have hbw : Below v3.heap.size v3 (v3.alloc (.cells #[.int .i64 6, .int .i64 0, .slice none 0 0, .slice A3 0 q3, .int .i64 100, .int .i64 0, .int .u16 2, .int .u16 0, .int .u16 0, .int .i64 0, .int .i64 0, .bool false, .int .i64 0, .slice none 0 0] 41)) := (Below.refl _ _).alloc (Nat.le_refl _) _
  replace Z0 := hQ (zb (hc.cell Z0.out (by decide)) hbw)
  replace Z1 := hQ (zb (hc.cell Z1.out (by decide)) hbw)
  replace Z2 := hQ (zb (hc.cell Z2.out (by decide)) hbw)
  replace R2 := hQ (Kd.zy (hc.R R2.out (by decide)) hbw)
  have T13 := hQ (hT.below hbw)
  have E13 := hQ hE
  have Z3 := hQ (zi v3 (.cells #[.int .i64 6, .int .i64 0, .slice none 0 0, .slice A3 0 q3, .int .i64 100, .int .i64 0, .int .u16 2, .int .u16 0, .int .u16 0, .int .i64 0, .int .i64 0, .bool false, .int .i64 0, .slice none 0 0] 41))
  clear hs hr hT hc hE hbw
  go_wp2_with (fail)
  have T := T13.out
  have hs : zR _ _ 11 _ wG3 _ _ _ 2 _ 4 1 _ _ _ _ _ _ _ _ := XM T (by omega) (by omega) 1 (by decide) 2 7 (by decide) (by omega) ok1 rfl rfl
  clear T
  simp only [zR, zT, zI] at hs
  refine hs.mono ?_
  rintro e v4 ⟨A4, q4, rfl, hr, hT, hc⟩
  have hE := ze (hc.below E13.out) (Nat.le_trans E13.out.size hc.size) (zn (Below.refl _ _) (.cells #[.int .i64 3, .int .i64 0, .slice none 0 0, .slice A4 1 q4, .int .i64 0, .int .i64 0, .int .u16 0, .int .u16 0, .int .u16 0, .int .i64 0, .int .i64 0, .bool false, .int .i64 0, .slice none 0 0] 41))
  have hbw : Below v4.heap.size v4 (v4.alloc (.cells #[.int .i64 3, .int .i64 0, .slice none 0 0, .slice A4 1 q4, .int .i64 0, .int .i64 0, .int .u16 0, .int .u16 0, .int .u16 0, .int .i64 0, .int .i64 0, .bool false, .int .i64 0, .slice none 0 0] 41)) := (Below.refl _ _).alloc (Nat.le_refl _) _
  replace Z0 := hQ (zb (hc.cell Z0.out (by decide)) hbw)
  replace Z1 := hQ (zb (hc.cell Z1.out (by decide)) hbw)
  replace Z2 := hQ (zb (hc.cell Z2.out (by decide)) hbw)
  replace R2 := hQ (Kd.zy (hc.R R2.out (by decide)) hbw)
  replace Z3 := hQ (zb (hc.cell Z3.out (by decide)) hbw)
  have T14 := hQ (hT.below hbw)
  have E14 := hQ hE
  have Z4 := hQ (zi v4 (.cells #[.int .i64 3, .int .i64 0, .slice none 0 0, .slice A4 1 q4, .int .i64 0, .int .i64 0, .int .u16 0, .int .u16 0, .int .u16 0, .int .i64 0, .int .i64 0, .bool false, .int .i64 0, .slice none 0 0] 41))
  have R4 := hQ (Kd.zy hr hbw)
  clear hs hr hT hc hE hbw
  obtain ⟨y0_0, y0_1, y0_2, y0_3, y0_4, y0_5, y0_6, y0_7, y0_8, y0_9, y0_10, y0_11, y0_12, y0_13⟩ := yn Z0.out
  obtain ⟨y1_0, y1_1, y1_2, y1_3, y1_4, y1_5, y1_6, y1_7, y1_8, y1_9, y1_10, y1_11, y1_12, y1_13⟩ := yn Z1.out
  obtain ⟨g2, eA2, gc2⟩ := zcn R2.out
  subst eA2
  obtain ⟨y2_0, y2_1, y2_2, y2_3, y2_4, y2_5, y2_6, y2_7, y2_8, y2_9, y2_10, y2_11, y2_12, y2_13⟩ := yn Z2.out
  obtain ⟨y3_0, y3_1, y3_2, y3_3, y3_4, y3_5, y3_6, y3_7, y3_8, y3_9, y3_10, y3_11, y3_12, y3_13⟩ := yn Z3.out
  obtain ⟨g4, eA4, gc4⟩ := zcn R4.out
  subst eA4
  obtain ⟨y4_0, y4_1, y4_2, y4_3, y4_4, y4_5, y4_6, y4_7, y4_8, y4_9, y4_10, y4_11, y4_12, y4_13⟩ := yn Z4.out
  have Zf := hQ (E14.out)
  go_wp2_with (fail)
  exact bodyPost_ret (v := .bool true) (by simp [results, Tryz.results5, go_sem]) rfl ⟨rfl, ze B2.out B2.out.size Zf.out⟩
end Go.Proofs.YtlalbohhopmpdaaGreat.Top
