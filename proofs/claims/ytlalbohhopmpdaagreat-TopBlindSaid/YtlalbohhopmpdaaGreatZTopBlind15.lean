/- Words and walks for TopBlind (made of the session's own texts; each part by itself). -/
import Derived.Deep.DeepCutAuto
import Derived.Deep.DeepMust
import Derived.Deep.RegionLaw
import Derived.Test.YtlalbohhopmpdaaGreatProg
import Derived.RegionTactic
import Derived.ChangeAlike
import Derived.Outline
import Derived.Lib.Hide
import Derived.WalkSpells
import Derived.Laws.CopyOwn
import Derived.Test.YtlalbohhopmpdaaGreatZTopBlind14
set_option maxRecDepth 100000
set_option maxHeartbeats 8000000
set_option linter.unusedVariables false
set_option linter.unusedSimpArgs false
namespace Go.Proofs.YtlalbohhopmpdaaGreat.Top
open Go.RowKit Go.Proofs.YtlalbohhopmpdaaGreat.PTop Go.YW.PrintWords Go.YW.PrintLast Go.YW.PrintMore Go.Proofs.YtlalbohhopmpdaaGreat.Num
attribute [local go_sem] zk zo
theorem JO (w : World) (g0 cap : Nat) (a n : Int) (ha : 0 ≤ a ∧ a < 256) (hn : 1 ≤ n ∧ n ≤ 125) (hC : Kd.C (Kd.int .u8) w (some ⟨g0, 0, none⟩) 5 [3, 0, a, 0, n]) (hc : 5 ≤ cap) :
    Calls Tryz.prog 105 #[.slice (some ⟨g0, 0, none⟩) 5 cap] w fun e w' => e = .returned (.tuple #[jF a n, .int .i64 0]) ∧ Below w.heap.size w w' := by
  have hu37 := Tryz.underlying37
  have hu228 := Tryz.underlying228
  have hu59 := Tryz.underlying59
  obtain ⟨W2, hW2⟩ : ∃ W2, W2 = (w.alloc (.cells yM 37)).alloc (.cells (jO 3) 37) := ⟨_, rfl⟩
  have B2 := hQ (show Below w.heap.size w W2 by rw [hW2]; exact ((Below.refl _ _).alloc (Nat.le_refl _) _).alloc (by simp) _)
  have X2 := hQ (show W2.heap[w.heap.size]? = some (.cells yM 37 (0, 0)) by rw [hW2]; exact zg (zi w _) _)
  have Y2 := hQ (show W2.heap[w.heap.size + 1]? = some (.cells (jO 3) 37 (0, 0)) by rw [hW2]; have h := zi (w.alloc (.cells yM 37)) (.cells (jO 3) 37); rw [show (w.alloc (.cells yM 37)).heap.size = w.heap.size + 1 by simp] at h; exact h)
  have hlt : g0 < w.heap.size := Kd.zcZ hC (by omega) (by decide)
  have l0 : (w.alloc (.cells yM 37)).cell? ⟨g0, 0, none⟩ = some (.int .u8 3) := by
    obtain ⟨ad, e1, h1⟩ := (Kd.yC hC (.cells yM 37)).2.2 (by omega)
    cases e1
    obtain ⟨cs, h2, h3, h4⟩ := h1 0 3 rfl
    exact h4 0 _ (by rw [h3]; rfl)
  have HA := hQ ha
  have HN := hQ hn
  have HC := hQ hC
  have HCC := hQ hc
  have HLT := hQ hlt
  clear ha hn hC hc hlt
  simp only [yM, jO] at hW2 l0
  go_enter Tryz.func105, Tryz.ntmps105
  go_wp2_with (fail)
  rw [← hW2]
  clear hW2 l0
  refine (Qa _).mono ?_
  rintro e w3 ⟨rfl, hd⟩
  have B3 := hQ (zf B2.out B2.out.size hd.below)
  have X3 := hQ (zb X2.out hd.below)
  have Y3 := hQ (zb Y2.out hd.below)
  clear hd
  obtain ⟨y0, y1, y2, y3, y4, y5, y6, y7, y8, y9, y10, y11⟩ := zV Y3.out
  have hc1 : (cap = 1) = False := eq_false (by have := HCC.out; omega)
  obtain ⟨W4, hW4⟩ : ∃ W4, W4 = w3.alloc (.cells #[.slice (some ⟨g0, 1, none⟩) 4 (cap - 1), .bool false] 228) := ⟨_, rfl⟩
  have hb4 : Below w3.heap.size w3 W4 := by rw [hW4]; exact (Below.refl _ _).alloc (Nat.le_refl _) _
  have B4 := hQ (zf B3.out B3.out.size hb4)
  have X4 := hQ (zb X3.out hb4)
  have Y4 := hQ (zb Y3.out hb4)
  have hlt4 : g0 < w3.heap.size := Nat.lt_of_lt_of_le HLT.out B3.out.size
  have K4 := hQ (show jy W4 w3.heap.size [0, a, 0, n] (some ⟨g0, 1, none⟩) (cap - 1) from ⟨by rw [hW4]; exact zi w3 _, by
      have h := Kd.QK (m := 1) HC.out (by simp) (c := cap) HCC.out
      rw [if_neg (by have := HCC.out; omega)] at h
      exact Kd.zx (Kd.zx h B3.out) hb4, by have := HCC.out; simp; omega, fun ad e => by cases e; exact hlt4⟩)
  have z0 : (w3.alloc (.cells #[.slice (some ⟨g0, 1, none⟩) 4 (cap - 1), .bool false] 228)).cell? ⟨w.heap.size + 1, 0, none⟩ = some (.int .i64 3) := by rw [← hW4]; exact za Y4.out 0
  have hz4 : W4.heap.size = w3.heap.size + 1 := by rw [hW4]; simp
  clear hb4 hlt4
  go_wp2_with (fail)
  rw [← hW4]
  have HZ4 := hQ hz4
  clear hW4 z0 y0 y1 y2 y3 y4 y5 y6 y7 y8 y9 y10 y11 hz4
  refine (zaY W4 w3.heap.size a n _ _ K4.out HA.out ⟨by have := HN.out; omega, by have := HN.out; omega⟩).mono ?_
  rintro e w5 ⟨rfl, ⟨A5, c5, h5⟩, g5⟩
  have hne : ∀ j, j < w3.heap.size → some j ≠ some w3.heap.size := fun j hj e => by injection e; omega
  have S3 := hQ (show w.heap.size + 2 ≤ w3.heap.size from by have := zF Y3.out; omega)
  have X5 := hQ (yG X4.out g5 (hne _ (by have := S3.out; omega)))
  have Y5 := hQ (yG Y4.out g5 (hne _ (by have := S3.out; omega)))
  have B5 := hQ (show Below w.heap.size w w5 from B4.out.trans ⟨g5.os, g5.tape, g5.output, g5.size, fun k hk => g5.block k (by have := S3.out; have := HZ4.out; omega) (hne k (by have := S3.out; omega))⟩)
  have K5 := hQ h5.blk
  clear h5 g5 hne
  obtain ⟨W6, hW6⟩ : ∃ W6, W6 = w5.alloc (.cells (qV a n) 37) := ⟨_, rfl⟩
  have hb6 : Below w5.heap.size w5 W6 := by rw [hW6]; exact (Below.refl _ _).alloc (Nat.le_refl _) _
  have B6 := hQ (zf B5.out B5.out.size hb6)
  have X6 := hQ (zb X5.out hb6)
  have P6 := hQ (show W6.heap[w5.heap.size]? = some (.cells (qV a n) 37 (0, 0)) by rw [hW6]; exact zi w5 _)
  have k0 : W6.cell? ⟨w3.heap.size, 0, none⟩ = some (.slice A5 0 c5) := za (zb K5.out hb6) 0
  have k1 : W6.cell? ⟨w3.heap.size, 1, none⟩ = some (.bool false) := za (zb K5.out hb6) 1
  obtain ⟨p0, p1, p2, p3, p4, p5, p6, p7, p8, p9, p10, p11⟩ := zV P6.out
  rw [hW6] at k0 k1 p0 p1 p2 p3 p4 p5 p6 p7 p8 p9 p10 p11 X6 P6 B6
  clear hb6 hW6
  simp only [qV] at k0 k1 p0 p1 p2 p3 p4 p5 p6 p7 p8 p9 p10 p11 X6 P6 B6
  simp only [jF]
  go_wp2_with (fail)
  refine (kD _ a n HA.out HN.out).mono ?_
  rintro e w7 ⟨rfl, hb⟩
  have B7 := hQ (zf B6.out B6.out.size hb)
  have X7 := hQ (zb X6.out hb)
  have P7 := hQ (zb P6.out hb)
  clear hb k0 k1 p0 p1 p2 p3 p4 p5 p6 p7 p8 p9 p10 p11
  obtain ⟨p0, p1, p2, p3, p4, p5, p6, p7, p8, p9, p10, p11⟩ := zV P7.out
  obtain ⟨x0, x1, x2, x3, x4, x5, x6, x7, x8, x9, x10, x11⟩ := zV X7.out
  have fx : ∀ i, w7.frozen? ⟨w.heap.size, i, none⟩ = false := fun i => zh X7.out i
  go_wp2
  refine bodyPost_ret (v := .tuple #[.agg (qV a n), .int .i64 0]) ?_ rfl ⟨rfl, B7.out.trans ?_⟩
  · simp [results, Tryz.results105, go_sem, hu37, x0, x1, x2, x3, x4, x5, x6, x7, x8, x9, x10, x11, qV]
  · (repeat (with_reducible first | exact Below.refl _ _ | (refine jG ?_ (by omega))))
theorem JM (w : World) (g0 cap : Nat) (a v : Int) (ha : 0 ≤ a ∧ a < 256) (hn : 0 ≤ v ∧ v < 65536) (hC : Kd.C (Kd.int .u8) w (some ⟨g0, 0, none⟩) 5 [6, 0, a, v / 256, v % 256]) (hc : 5 ≤ cap) :
    Calls Tryz.prog 105 #[.slice (some ⟨g0, 0, none⟩) 5 cap] w fun e w' => e = .returned (.tuple #[qF a v, .int .i64 0]) ∧ Below w.heap.size w w' := by
  have hu37 := Tryz.underlying37
  have hu228 := Tryz.underlying228
  have hu59 := Tryz.underlying59
  obtain ⟨W2, hW2⟩ : ∃ W2, W2 = (w.alloc (.cells yM 37)).alloc (.cells (jO 6) 37) := ⟨_, rfl⟩
  have B2 := hQ (show Below w.heap.size w W2 by rw [hW2]; exact ((Below.refl _ _).alloc (Nat.le_refl _) _).alloc (by simp) _)
  have X2 := hQ (show W2.heap[w.heap.size]? = some (.cells yM 37 (0, 0)) by rw [hW2]; exact zg (zi w _) _)
  have Y2 := hQ (show W2.heap[w.heap.size + 1]? = some (.cells (jO 6) 37 (0, 0)) by rw [hW2]; have h := zi (w.alloc (.cells yM 37)) (.cells (jO 6) 37); rw [show (w.alloc (.cells yM 37)).heap.size = w.heap.size + 1 by simp] at h; exact h)
  have hlt : g0 < w.heap.size := Kd.zcZ hC (by omega) (by decide)
  have l0 : (w.alloc (.cells yM 37)).cell? ⟨g0, 0, none⟩ = some (.int .u8 6) := by
    obtain ⟨ad, e1, h1⟩ := (Kd.yC hC (.cells yM 37)).2.2 (by omega)
    cases e1
    obtain ⟨cs, h2, h3, h4⟩ := h1 0 6 rfl
    exact h4 0 _ (by rw [h3]; rfl)
  have HA := hQ ha
  have HN := hQ hn
  have HC := hQ hC
  have HCC := hQ hc
  have HLT := hQ hlt
  clear ha hn hC hc hlt
  simp only [yM, jO] at hW2 l0
  go_enter Tryz.func105, Tryz.ntmps105
  go_wp2_with (fail)
  rw [← hW2]
  clear hW2 l0
  refine (QP _).mono ?_
  rintro e w3 ⟨rfl, hd⟩
  have B3 := hQ (zf B2.out B2.out.size hd.below)
  have X3 := hQ (zb X2.out hd.below)
  have Y3 := hQ (zb Y2.out hd.below)
  clear hd
  obtain ⟨y0, y1, y2, y3, y4, y5, y6, y7, y8, y9, y10, y11⟩ := zV Y3.out
  have hc1 : (cap = 1) = False := eq_false (by have := HCC.out; omega)
  obtain ⟨W4, hW4⟩ : ∃ W4, W4 = w3.alloc (.cells #[.slice (some ⟨g0, 1, none⟩) 4 (cap - 1), .bool false] 228) := ⟨_, rfl⟩
  have hb4 : Below w3.heap.size w3 W4 := by rw [hW4]; exact (Below.refl _ _).alloc (Nat.le_refl _) _
  have B4 := hQ (zf B3.out B3.out.size hb4)
  have X4 := hQ (zb X3.out hb4)
  have Y4 := hQ (zb Y3.out hb4)
  have hlt4 : g0 < w3.heap.size := Nat.lt_of_lt_of_le HLT.out B3.out.size
  have K4 := hQ (show jy W4 w3.heap.size [0, a, v / 256, v % 256] (some ⟨g0, 1, none⟩) (cap - 1) from ⟨by rw [hW4]; exact zi w3 _, by
      have h := Kd.QK (m := 1) HC.out (by simp) (c := cap) HCC.out
      rw [if_neg (by have := HCC.out; omega)] at h
      exact Kd.zx (Kd.zx h B3.out) hb4, by have := HCC.out; simp; omega, fun ad e => by cases e; exact hlt4⟩)
  have z0 : (w3.alloc (.cells #[.slice (some ⟨g0, 1, none⟩) 4 (cap - 1), .bool false] 228)).cell? ⟨w.heap.size + 1, 0, none⟩ = some (.int .i64 6) := by rw [← hW4]; exact za Y4.out 0
  have hz4 : W4.heap.size = w3.heap.size + 1 := by rw [hW4]; simp
  clear hb4 hlt4
  go_wp2_with (fail)
  rw [← hW4]
  have HZ4 := hQ hz4
  clear hW4 z0 y0 y1 y2 y3 y4 y5 y6 y7 y8 y9 y10 y11 hz4
  refine (zaq W4 w3.heap.size a v _ _ K4.out HA.out HN.out).mono ?_
  rintro e w5 ⟨rfl, ⟨A5, c5, h5⟩, g5⟩
  have hne : ∀ j, j < w3.heap.size → some j ≠ some w3.heap.size := fun j hj e => by injection e; omega
  have S3 := hQ (show w.heap.size + 2 ≤ w3.heap.size from by have := zF Y3.out; omega)
  have X5 := hQ (yG X4.out g5 (hne _ (by have := S3.out; omega)))
  have Y5 := hQ (yG Y4.out g5 (hne _ (by have := S3.out; omega)))
  have B5 := hQ (show Below w.heap.size w w5 from B4.out.trans ⟨g5.os, g5.tape, g5.output, g5.size, fun k hk => g5.block k (by have := S3.out; have := HZ4.out; omega) (hne k (by have := S3.out; omega))⟩)
  have K5 := hQ h5.blk
  clear h5 g5 hne
  obtain ⟨W6, hW6⟩ : ∃ W6, W6 = w5.alloc (.cells (xS a v) 37) := ⟨_, rfl⟩
  have hb6 : Below w5.heap.size w5 W6 := by rw [hW6]; exact (Below.refl _ _).alloc (Nat.le_refl _) _
  have B6 := hQ (zf B5.out B5.out.size hb6)
  have X6 := hQ (zb X5.out hb6)
  have P6 := hQ (show W6.heap[w5.heap.size]? = some (.cells (xS a v) 37 (0, 0)) by rw [hW6]; exact zi w5 _)
  have k0 : W6.cell? ⟨w3.heap.size, 0, none⟩ = some (.slice A5 0 c5) := za (zb K5.out hb6) 0
  have k1 : W6.cell? ⟨w3.heap.size, 1, none⟩ = some (.bool false) := za (zb K5.out hb6) 1
  obtain ⟨p0, p1, p2, p3, p4, p5, p6, p7, p8, p9, p10, p11⟩ := zV P6.out
  rw [hW6] at k0 k1 p0 p1 p2 p3 p4 p5 p6 p7 p8 p9 p10 p11 X6 P6 B6
  clear hb6 hW6
  simp only [xS] at k0 k1 p0 p1 p2 p3 p4 p5 p6 p7 p8 p9 p10 p11 X6 P6 B6
  simp only [qF]
  go_wp2_with (fail)
  refine (qX _ a v HA.out HN.out).mono ?_
  rintro e w7 ⟨rfl, hb⟩
  have B7 := hQ (zf B6.out B6.out.size hb)
  have X7 := hQ (zb X6.out hb)
  have P7 := hQ (zb P6.out hb)
  clear hb k0 k1 p0 p1 p2 p3 p4 p5 p6 p7 p8 p9 p10 p11
  obtain ⟨p0, p1, p2, p3, p4, p5, p6, p7, p8, p9, p10, p11⟩ := zV P7.out
  obtain ⟨x0, x1, x2, x3, x4, x5, x6, x7, x8, x9, x10, x11⟩ := zV X7.out
  have fx : ∀ i, w7.frozen? ⟨w.heap.size, i, none⟩ = false := fun i => zh X7.out i
  go_wp2
  refine bodyPost_ret (v := .tuple #[.agg (xS a v), .int .i64 0]) ?_ rfl ⟨rfl, B7.out.trans ?_⟩
  · simp [results, Tryz.results105, go_sem, hu37, x0, x1, x2, x3, x4, x5, x6, x7, x8, x9, x10, x11, xS]
  · (repeat (with_reducible first | exact Below.refl _ _ | (refine jG ?_ (by omega))))
theorem Qj (w : World) (B N N' : Nat) (x : Ix) (g g' : Sg) (h : ym w B N x g) (hN : N < maxLen) (m gr o : Value) (hcfg : qO w m gr) (k : Int) (hk : (Lit.int .i64 k).wf = true) (a v exc at_ rv : Int) (ha : 0 ≤ a ∧ a < 256) (hv : 0 ≤ v ∧ v < 65536) (hDo : ∀ w1 : World, ym w1 B (N + 1) x g → qO w1 m gr → Calls Tryz.prog 107 #[.pointer (some ⟨x.ss, 0, none⟩), .agg (xR m gr o), .int .i64 k, .agg #[.int .i64 6, .int .i64 a, .int .i64 0, .int .u16 v, .int .u16 0, .int .u16 0, .slice none 0 0, .slice none 0 0, .int .i64 0, .int .i64 0, .int .i64 0, .int .i64 0]] w1 fun e w' => e = .returned (yu 6 exc (.slice none 0 0) at_ rv) ∧ ym w' B N' x g' ∧ Ch TS (MS x) B w1 w') (bl : List Int) (nb : Nat) (hB : ∀ w1 : World, Calls Tryz.prog 108 #[yu 6 exc (.slice none 0 0) at_ rv] w1 fun e w' => ∃ A c, e = .returned (.tuple #[.slice A nb c, .int .i64 0]) ∧ nb ≤ c ∧ Kd.F (Kd.int .u8) w' (fun k => w1.heap.size ≤ k) A nb bl ∧ Below w1.heap.size w1 w') (g0 cap B0 : Nat) (hP : Kd.R (Kd.int .u8) 5 w B0 (fun _ => True) (.slice (some ⟨g0, 0, none⟩) 5 cap) [6, 0, a, v / 256, v % 256]) :
    Calls Tryz.prog 64 #[.pointer (some ⟨x.ss, 0, none⟩), .agg (xR m gr o), .int .i64 k, .slice (some ⟨g0, 0, none⟩) 5 cap] w fun e w' => ∃ A c, e = .returned (.slice A nb c) ∧ nb ≤ c ∧ Kd.F (Kd.int .u8) w' (fun k => w.heap.size ≤ k) A nb bl ∧ ym w' B N' x g' ∧ Ch TS (MS x) B w w' := by
  have hu41 := Tryz.underlying41
  have hu37 := Tryz.underlying37
  have hu30 := Tryz.underlying30
  have B1 := hQ (show Below w.heap.size w (w.alloc (.cells (xR m gr o) 30)) from (Below.refl _ _).alloc (Nat.le_refl _) _)
  have K1 := hQ (zi w (.cells (xR m gr o) 30))
  have F1 := hQ (hcfg.below B1.out)
  have P1 := hQ (Kd.zz hP B1.out)
  have H := hQ h
  have HA := hQ ha
  have HV := hQ hv
  have HD := hQ hDo
  have hFail := Yq
  have HB := hQ hB
  clear ha hv hB
  simp only [yu, zW] at HD hFail HB
  clear h hcfg hP hDo
  simp only [xR] at B1 K1 F1 P1 HD ⊢
  go_enter Tryz.func64, Tryz.ntmps64
  go_wp2_with (fail)
  refine (XG _ B N x g (H.out.below B1.out) hN k hk).mono ?_
  rintro e w2 ⟨rfl, hs, hc⟩
  have L2 := hQ ((Loc.mk' H.out B1.out K1.out K1.out (by omega) (by omega) (by decide) (by decide)).step hs hc)
  have K2 := hQ (hc.cell K1.out (by decide))
  have F2 := hQ (F1.out.ch hc)
  have P2 := hQ (hc.R P1.out (by decide))
  clear hs hc
  go_wp2_with (fail)
  refine (JM w2 g0 cap a v HA.out HV.out (Kd.zB P2.out).2.2 (Kd.zB P2.out).2.1).mono ?_
  rintro e w3 ⟨rfl, hb⟩
  have L3 := hQ (L2.out.below hb)
  have K3 := hQ (zb K2.out hb)
  have F3 := hQ (F2.out.below hb)
  clear hb
  simp only [qF, jF] at *
  have X4 := hQ (zi w3 (.cells #[.int .i64 6, .int .i64 a, .int .i64 0, .int .u16 v, .int .u16 0, .int .u16 0, .slice none 0 0, .slice none 0 0, .int .i64 0, .int .i64 0, .int .i64 0, .int .i64 0] 37))
  have hb4 : Below w3.heap.size w3 (w3.alloc (.cells #[.int .i64 6, .int .i64 a, .int .i64 0, .int .u16 v, .int .u16 0, .int .u16 0, .slice none 0 0, .slice none 0 0, .int .i64 0, .int .i64 0, .int .i64 0, .int .i64 0] 37)) := (Below.refl _ _).alloc (Nat.le_refl _) _
  have L4 := hQ (L3.out.below hb4)
  have K4 := hQ (zb K3.out hb4)
  have F4 := hQ (F3.out.below hb4)
  obtain ⟨x0, x1, x2, x3, x4, x5, x6, x7, x8, x9, x10, x11⟩ := zV X4.out
  clear hb4
  go_wp2_with (fail)
  refine (hFail _ 6 0).mono ?_
  rintro e w5 ⟨rfl, hb⟩
  have L5 := hQ (L4.out.below hb)
  have K5 := hQ (zb K4.out hb)
  have X5 := hQ (zb X4.out hb)
  have F5 := hQ (F4.out.below hb)
  clear hb x0 x1 x2 x3 x4 x5 x6 x7 x8 x9 x10 x11
  have Z6 := hQ (zi w5 (.cells #[.int .i64 6, .int .i64 0, .slice none 0 0, .slice none 0 0, .int .i64 0, .int .i64 0, .int .u16 0, .int .u16 0, .int .u16 0, .int .i64 0, .int .i64 0, .bool false, .int .i64 0, .slice none 0 0] 41))
  have hb6 : Below w5.heap.size w5 (w5.alloc (.cells #[.int .i64 6, .int .i64 0, .slice none 0 0, .slice none 0 0, .int .i64 0, .int .i64 0, .int .u16 0, .int .u16 0, .int .u16 0, .int .i64 0, .int .i64 0, .bool false, .int .i64 0, .slice none 0 0] 41)) := (Below.refl _ _).alloc (Nat.le_refl _) _
  have L6 := hQ (L5.out.below hb6)
  have K6 := hQ (zb K5.out hb6)
  have X6 := hQ (zb X5.out hb6)
  have F6 := hQ (F5.out.below hb6)
  clear hb6
  obtain ⟨x0, x1, x2, x3, x4, x5, x6, x7, x8, x9, x10, x11⟩ := zV X6.out
  obtain ⟨k0, k1, k2, k3, k4, k5, k6, k7, k8, k9, k10, k11, k12⟩ := Xk K6.out
  go_wp2_with (fail)
  refine (HD.out _ L6.out.slv F6.out).mono ?_
  rintro e w7 ⟨rfl, hs, hc⟩
  have L7 := hQ (((⟨L6.out.slv, L6.out.ch, L6.out.le, ⟨_, _, _, Z6.out, by decide⟩, ⟨_, _, _, Z6.out, by decide⟩, Nat.le_trans L5.out.ch.size (Nat.le_refl _), Nat.le_trans L5.out.ch.size (Nat.le_refl _)⟩ : Loc B (N + 1) x g w _ w5.heap.size w5.heap.size)).step hs hc)
  have Z7 := hQ (hc.cell Z6.out (by decide))
  have S5 := hQ L5.out.ch.size
  clear hs hc x0 x1 x2 x3 x4 x5 x6 x7 x8 x9 x10 x11 k0 k1 k2 k3 k4 k5 k6 k7 k8 k9 k10 k11 k12
  obtain ⟨y0, y1, y2, y3, y4, y5, y6, y7, y8, y9, y10, y11, y12, y13⟩ := yK Z7.out
  have fy : ∀ i, w7.frozen? ⟨w5.heap.size, i, none⟩ = false := fun i => zh Z7.out i
  go_wp2_with (fail)
  refine (HB.out _).mono ?_
  rintro e w9 ⟨A9, c9, rfl, hc9, hF9, hb⟩
  have L9 : Loc B N' x g' w w9 w5.heap.size w5.heap.size := by
    refine Loc.below ?_ hb
    repeat (with_reducible first | exact L7.out | (refine Loc.set ?_ (Or.inl rfl)))
  have F9 : Kd.F (Kd.int .u8) w9 (fun k => w.heap.size ≤ k) A9 nb bl := Kd.qU hF9 (fun k hk => by have h7 := L7.out.ch.size; simp [World.setCell] at hk; omega)
  clear hb hF9
  go_wp2
  exact bodyPost_ret (v := .slice A9 nb c9) (by simp [results, Tryz.results64, go_sem]) rfl ⟨A9, c9, rfl, hc9, F9, L9.slv, L9.ch⟩
theorem Vy (w : World) (B N N' : Nat) (x : Ix) (g g' : Sg) (h : ym w B N x g) (hN : N < maxLen) (m gr o : Value) (hcfg : qO w m gr) (k : Int) (hk : (Lit.int .i64 k).wf = true) (a : Int) (n : Nat) (l : List Int) (hl : l.length = n) (ha : 0 ≤ a ∧ a < 256) (hn : 1 ≤ n ∧ n ≤ 16) (hDo : ∀ w1 : World, ym w1 B (N + 1) x g → qO w1 m gr → Calls Tryz.prog 107 #[.pointer (some ⟨x.ss, 0, none⟩), .agg (xR m gr o), .int .i64 k, .agg #[.int .i64 3, .int .i64 a, .int .i64 (n : Int), .int .u16 0, .int .u16 0, .int .u16 0, .slice none 0 0, .slice none 0 0, .int .i64 0, .int .i64 0, .int .i64 0, .int .i64 0]] w1 fun e w' => ∃ A c, e = .returned (yu 3 0 (.slice A n c) 0 0) ∧ n ≤ c ∧ Kd.F (Kd.int .u16) w' (fun k => w1.heap.size ≤ k) A n l ∧ ym w' B N' x g' ∧ Ch TS (MS x) B w1 w')  (g0 cap B0 : Nat) (hP : Kd.R (Kd.int .u8) 5 w B0 (fun _ => True) (.slice (some ⟨g0, 0, none⟩) 5 cap) [3, 0, a, 0, (n : Int)]) :
    Calls Tryz.prog 64 #[.pointer (some ⟨x.ss, 0, none⟩), .agg (xR m gr o), .int .i64 k, .slice (some ⟨g0, 0, none⟩) 5 cap] w fun e w' => ∃ A c, e = .returned (.slice A (2 + 2 * n) c) ∧ (2 + 2 * n) ≤ c ∧ Kd.F (Kd.int .u8) w' (fun k => w.heap.size ≤ k) A (2 + 2 * n) (3 :: 2 * (n : Int) :: yx l) ∧ ym w' B N' x g' ∧ Ch TS (MS x) B w w' := by
  have hu41 := Tryz.underlying41
  have hu37 := Tryz.underlying37
  have hu30 := Tryz.underlying30
  have B1 := hQ (show Below w.heap.size w (w.alloc (.cells (xR m gr o) 30)) from (Below.refl _ _).alloc (Nat.le_refl _) _)
  have K1 := hQ (zi w (.cells (xR m gr o) 30))
  have F1 := hQ (hcfg.below B1.out)
  have P1 := hQ (Kd.zz hP B1.out)
  have H := hQ h
  have HA := hQ ha
  have HN := hQ hn
  have HL := hQ hl
  have HD := hQ hDo
  have hFail := Yq
  have hby := fun (w : World) (A2 : Option Addr) (c2 : Nat) => Qg w l n hl hn none 0 A2 c2 none 0
  clear ha hn hl
  simp only [yu, zW] at HD hFail hby
  clear h hcfg hP hDo
  simp only [xR] at B1 K1 F1 P1 HD ⊢
  go_enter Tryz.func64, Tryz.ntmps64
  go_wp2_with (fail)
  refine (XG _ B N x g (H.out.below B1.out) hN k hk).mono ?_
  rintro e w2 ⟨rfl, hs, hc⟩
  have L2 := hQ ((Loc.mk' H.out B1.out K1.out K1.out (by omega) (by omega) (by decide) (by decide)).step hs hc)
  have K2 := hQ (hc.cell K1.out (by decide))
  have F2 := hQ (F1.out.ch hc)
  have P2 := hQ (hc.R P1.out (by decide))
  clear hs hc
  go_wp2_with (fail)
  refine (JO w2 g0 cap a n HA.out (by have := HN.out; omega) (Kd.zB P2.out).2.2 (Kd.zB P2.out).2.1).mono ?_
  rintro e w3 ⟨rfl, hb⟩
  have L3 := hQ (L2.out.below hb)
  have K3 := hQ (zb K2.out hb)
  have F3 := hQ (F2.out.below hb)
  clear hb
  simp only [qF, jF] at *
  have X4 := hQ (zi w3 (.cells #[.int .i64 3, .int .i64 a, .int .i64 (n : Int), .int .u16 0, .int .u16 0, .int .u16 0, .slice none 0 0, .slice none 0 0, .int .i64 0, .int .i64 0, .int .i64 0, .int .i64 0] 37))
  have hb4 : Below w3.heap.size w3 (w3.alloc (.cells #[.int .i64 3, .int .i64 a, .int .i64 (n : Int), .int .u16 0, .int .u16 0, .int .u16 0, .slice none 0 0, .slice none 0 0, .int .i64 0, .int .i64 0, .int .i64 0, .int .i64 0] 37)) := (Below.refl _ _).alloc (Nat.le_refl _) _
  have L4 := hQ (L3.out.below hb4)
  have K4 := hQ (zb K3.out hb4)
  have F4 := hQ (F3.out.below hb4)
  obtain ⟨x0, x1, x2, x3, x4, x5, x6, x7, x8, x9, x10, x11⟩ := zV X4.out
  clear hb4
  go_wp2_with (fail)
  refine (hFail _ 3 0).mono ?_
  rintro e w5 ⟨rfl, hb⟩
  have L5 := hQ (L4.out.below hb)
  have K5 := hQ (zb K4.out hb)
  have X5 := hQ (zb X4.out hb)
  have F5 := hQ (F4.out.below hb)
  clear hb x0 x1 x2 x3 x4 x5 x6 x7 x8 x9 x10 x11
  have Z6 := hQ (zi w5 (.cells #[.int .i64 3, .int .i64 0, .slice none 0 0, .slice none 0 0, .int .i64 0, .int .i64 0, .int .u16 0, .int .u16 0, .int .u16 0, .int .i64 0, .int .i64 0, .bool false, .int .i64 0, .slice none 0 0] 41))
  have hb6 : Below w5.heap.size w5 (w5.alloc (.cells #[.int .i64 3, .int .i64 0, .slice none 0 0, .slice none 0 0, .int .i64 0, .int .i64 0, .int .u16 0, .int .u16 0, .int .u16 0, .int .i64 0, .int .i64 0, .bool false, .int .i64 0, .slice none 0 0] 41)) := (Below.refl _ _).alloc (Nat.le_refl _) _
  have L6 := hQ (L5.out.below hb6)
  have K6 := hQ (zb K5.out hb6)
  have X6 := hQ (zb X5.out hb6)
  have F6 := hQ (F5.out.below hb6)
  clear hb6
  obtain ⟨x0, x1, x2, x3, x4, x5, x6, x7, x8, x9, x10, x11⟩ := zV X6.out
  obtain ⟨k0, k1, k2, k3, k4, k5, k6, k7, k8, k9, k10, k11, k12⟩ := Xk K6.out
  go_wp2_with (fail)
  refine (HD.out _ L6.out.slv F6.out).mono ?_
  rintro e w7 ⟨A, c, rfl, hcc, hF, hs, hc⟩
  have L7 := hQ (((⟨L6.out.slv, L6.out.ch, L6.out.le, ⟨_, _, _, Z6.out, by decide⟩, ⟨_, _, _, Z6.out, by decide⟩, Nat.le_trans L5.out.ch.size (Nat.le_refl _), Nat.le_trans L5.out.ch.size (Nat.le_refl _)⟩ : Loc B (N + 1) x g w _ w5.heap.size w5.heap.size)).step hs hc)
  have Z7 := hQ (hc.cell Z6.out (by decide))
  have Q7 := hQ hF
  have S7 := hQ (zF Z6.out)
  have HCC := hQ hcc
  clear hF hcc
  have S5 := hQ L5.out.ch.size
  clear hs hc x0 x1 x2 x3 x4 x5 x6 x7 x8 x9 x10 x11 k0 k1 k2 k3 k4 k5 k6 k7 k8 k9 k10 k11 k12
  obtain ⟨y0, y1, y2, y3, y4, y5, y6, y7, y8, y9, y10, y11, y12, y13⟩ := yK Z7.out
  have fy : ∀ i, w7.frozen? ⟨w5.heap.size, i, none⟩ = false := fun i => zh Z7.out i
  go_wp2_with (fail)
  have hq : ∀ W : World, Kd.F (Kd.int .u16) W (fun k => (w5.alloc (.cells #[.int .i64 3, .int .i64 0, .slice none 0 0, .slice none 0 0, .int .i64 0, .int .i64 0, .int .u16 0, .int .u16 0, .int .u16 0, .int .i64 0, .int .i64 0, .bool false, .int .i64 0, .slice none 0 0] 41)).heap.size ≤ k) A n l → Kd.C (Kd.int .u16) W A n l := fun W hF => Kd.XH hF
  refine (hby _ A c (hq _ ?_) HCC.out).mono ?_
  · have s7 := S7.out
    repeat (with_reducible first | exact Q7.out | (refine kY ?_ s7))
  rintro e w9 ⟨A9, c9, rfl, hc9, hF9, hb⟩
  have L9 : Loc B N' x g' w w9 w5.heap.size w5.heap.size := by
    refine Loc.below ?_ hb
    repeat (with_reducible first | exact L7.out | (refine Loc.set ?_ (Or.inl rfl)))
  have F9 : Kd.F (Kd.int .u8) w9 (fun k => w.heap.size ≤ k) A9 (2 + 2 * n) (3 :: 2 * (n : Int) :: yx l) := Kd.qU hF9 (fun k hk => by have h7 := L7.out.ch.size; simp [World.setCell] at hk; omega)
  clear hb hF9
  go_wp2
  exact bodyPost_ret (v := .slice A9 (2 + 2 * n) c9) (by simp [results, Tryz.results64, go_sem]) rfl ⟨A9, c9, rfl, hc9, F9, L9.slv, L9.ch⟩
end Go.Proofs.YtlalbohhopmpdaaGreat.Top
namespace Go.Proofs.YtlalbohhopmpdaaGreat.Ring
open Go.RowKit Go.YW.PrintWords Go.YW.PrintLast Go.YW.PrintMore
def bv (l : List Int) : Array Value := (l.map (Value.int .u8)).toArray
theorem VJ (l : List Int) : (bv l).size = l.length := by simp [bv]
theorem zdg (l : List Int) (i : Nat) (x : Int) (h : l[i]? = some x) : (bv l)[i]? = some (.int .u8 x) := by simp [bv, h]
theorem zcs {w : World} {g t : Nat} {l : List Int} (h : w.heap[g]? = some (.cells (bv l) t (0, 0))) (f n : Nat) (hf : f + n ≤ l.length) (hl : l.length ≤ 100000) : Kd.C (Kd.int .u8) w (some ⟨g, f, none⟩) n ((l.drop f).take n) := by
  refine ⟨by simp; omega, by omega, fun _ => ⟨_, rfl, fun j p hp => ?_⟩⟩
  have hj : j < n := by
    have := (List.getElem?_eq_some_iff.1 hp).1
    simp at this
    omega
  rw [List.getElem?_take_of_lt hj, List.getElem?_drop] at hp
  refine ⟨[.int .u8 p], rfl, rfl, fun i u hu => ?_⟩
  have hi : i = 0 := by
    have := (List.getElem?_eq_some_iff.1 hu).1
    simp at this
    omega
  subst hi
  simp only [List.getElem?_cons_zero, Option.some.injEq] at hu
  subst hu
  rw [show (Kd.int .u8).sz = 1 from rfl, Nat.mul_one, Nat.add_zero, show (⟨g, f, none⟩ : Addr).add j = ⟨g, f + j, none⟩ by unfold Addr.add; split <;> simp_all, cell_of_row w g (f + j) _ t (0, 0) h]
  exact zdg l _ _ hp
theorem zbB {w : World} {g base : Nat} {l : List Int} {ok : Nat → Prop} (h : w.heap[g]? = some (.cells (bv l) 5 (0, 0))) (hb : base ≤ g) (hl : l.length ≤ 100000) (hok : ok g) : Kd.R (Kd.int .u8) 5 w base ok (.slice (some ⟨g, 0, none⟩) l.length l.length) l := by
  refine ⟨fun k hk => ?_, l.map (Value.int .u8), ⟨by rw [List.length_map, show (Kd.int .u8).sz = 1 from rfl, Nat.mul_one], .inr ⟨g, l.length, bv l, rfl, hb, h, Nat.le_refl _, by unfold maxLen; omega, by rw [VJ, show (Kd.int .u8).sz = 1 from rfl, Nat.mul_one], ?_⟩⟩, by rw [List.length_map, show (Kd.int .u8).sz = 1 from rfl, Nat.mul_one], fun j p hp => ?_⟩
  · have : g = k := by simpa [Value.ownBlock] using hk
    rw [← this]; exact hok
  · rw [show (Kd.int .u8).sz = 1 from rfl, Nat.mul_one]
    simp only [bv]
    exact List.take_of_length_le (by simp)
  · rw [show (Kd.int .u8).sz = 1 from rfl, Nat.mul_one]
    have hj := (List.getElem?_eq_some_iff.1 hp).1
    have e : ((l.map (Value.int .u8)).drop j).take 1 = [Value.int .u8 p] := by
      rw [List.drop_eq_getElem_cons (by simpa using hj), List.take_succ_cons, List.take_zero, List.getElem_map]
      have := (List.getElem?_eq_some_iff.1 hp).2
      rw [this]
    rw [e]
    rfl
theorem ko (w : World) (A : Option Addr) : Kd.C (Kd.int .u8) w A 0 [] := ⟨rfl, by decide, fun h => absurd h (by omega)⟩
theorem zbp {w : World} {g ty f M : Nat} {bs : List Int} {A : Option Addr} (h : w.heap[g]? = some (.cells (bv bs) ty (0, 0))) (hl : bs.length = M) (hM : M ≤ 65536) (hA : 0 < M - f → A = some ⟨g, f, none⟩) : Kd.C (Kd.int .u8) w A (M - f) (bs.drop f) := by
  rcases Nat.eq_zero_or_pos (M - f) with h0 | h0
  · rw [h0, List.drop_eq_nil_of_le (by omega)]
    exact ko _ _
  · rw [hA h0]
    have := zcs h f (M - f) (by omega) (by omega)
    rwa [List.take_of_length_le (by rw [List.length_drop]; omega)] at this
theorem Xj (m : Nat) : madeCells #[Value.int .u8 0] m = bv (List.replicate m 0) := by
  apply Array.toList_inj.1
  rw [toList_madeCells_one]
  simp [bv]
theorem zaf (w : World) (m : Nat) : (w.alloc (.cells (madeCells #[Value.int .u8 0] m) 5)).heap[w.heap.size]? = some (.cells (bv (List.replicate m 0)) 5 (0, 0)) := by
  rw [Xj]
  exact zi _ _
theorem Qb (g f n c : Nat) (h : f ≤ n) (hc : n ≤ c) : ∃ A1 : Option Addr, (0 < n - f → A1 = some ⟨g, f, none⟩) ∧ ∀ (W : World), (Instr.sliceAt 59 (.slice (some ⟨g, 0, none⟩) n c) (some (.int .i64 f)) none none).run Tryz.prog W = .ok (.slice A1 (n - f) (c - f)) W := by
  refine ⟨if c = f then some ⟨g, 0, none⟩ else some ⟨g, f, none⟩, fun h => if_neg (by omega), fun W => ?_⟩
  have hu59 := Tryz.underlying59
  by_cases e : c = f
  · simp [Instr.sliceAt, Instr.slice, Instr.sliceBounds, Instr.sliceBound, go_sem, h, e, Addr.add]
  · simp [Instr.sliceAt, Instr.slice, Instr.sliceBounds, Instr.sliceBound, go_sem, h, e, Addr.add]
    exact fun h => h.symm
theorem Jt (A : Option Addr) (f n c : Nat) (h : f ≤ n) (hc : n ≤ c) : ∃ A1 : Option Addr, (0 < n - f → A1 = A.map (·.add f)) ∧ ∀ (W : World), (Instr.sliceAt 59 (.slice A n c) (some (.int .i64 f)) none none).run Tryz.prog W = .ok (.slice A1 (n - f) (c - f)) W := by
  refine ⟨if c = f then A else A.map (·.add f), fun h => if_neg (by omega), fun W => ?_⟩
  have hu59 := Tryz.underlying59
  by_cases e : c = f
  · simp [Instr.sliceAt, Instr.slice, Instr.sliceBounds, Instr.sliceBound, go_sem, h, e]
  · simp [Instr.sliceAt, Instr.slice, Instr.sliceBounds, Instr.sliceBound, go_sem, h, e]
theorem WW (A : Option Addr) (f n c : Nat) (h : f ≤ c) (W : World) : (Instr.sliceAt 59 (.slice A n c) none (some (.int .i64 f)) none).run Tryz.prog W = .ok (.slice A f c) W := by
  have hu59 := Tryz.underlying59
  cases A <;> simp [Instr.sliceAt, Instr.slice, Instr.sliceBounds, Instr.sliceBound, go_sem, h, Addr.add]
theorem zcy {k : IntKind} {w : World} {A : Option Addr} {n : Nat} {l : List Int} (h : Kd.C (Kd.int k) w A n l) (f m : Nat) (hm : f + m ≤ n) (B : Option Addr) (hB : 0 < m → B = A.map (·.add f)) : Kd.C (Kd.int k) w B m ((l.drop f).take m) := by
  have hl : l.length = n := h.1
  refine ⟨by simp; omega, by have := h.2.1; omega, fun hm0 => ?_⟩
  obtain ⟨ad, rfl, hr⟩ := h.2.2 (by omega)
  rw [hB hm0]
  refine ⟨_, rfl, fun j p hp => ?_⟩
  have hj : j < m := by
    have := (List.getElem?_eq_some_iff.1 hp).1
    simp at this
    omega
  rw [List.getElem?_take_of_lt hj, List.getElem?_drop] at hp
  obtain ⟨c, h1, h2, h3⟩ := hr (f + j) p hp
  refine ⟨c, h1, h2, fun i u hu => ?_⟩
  have := h3 i u hu
  have e : (Kd.int k).sz = 1 := rfl
  rw [e, Nat.mul_one] at this ⊢
  rw [← this, Addr.add_add, Nat.add_assoc]
section
variable {P : Program} {ops : Array Oper} {rest : List Oper} {o : Oper} {a : Act} {Q : Exit → Act → World → Prop}
theorem Zr (hgd : o.guard = none) (x y : Operand) (ts : Array TypeId) (ho : o.op = .call { callee := .builtin .max, args := #[x, y], argTypes := ts }) (k : IntKind) {W : World} (p q r : Int) (hx : a.eval x = .int k p) (hy : a.eval y = .int k q) (hr : r = max p q)
    (h : wpList P ops Q rest (a.put o.dst (.int k r)) W) : wpList P ops Q (o :: rest) a W := by
  refine wpList_plain hgd fun K hK => ?_
  unfold Oper.wp execOp
  have e : (if p < q then q else p) = r := by rw [hr]; split <;> omega
  simp only [ho, resolve, invoke, builtin, Sem.run_bind, Sem.run_pure, Result.andThen_ok, List.map_toArray, List.map_cons, List.map_nil, hx, hy, xu, yN, e]
  exact hK _ _ h
theorem Vm (hgd : o.guard = none) (x y : Operand) (ts : Array TypeId) (ho : o.op = .call { callee := .builtin .min, args := #[x, y], argTypes := ts }) (k : IntKind) {W : World} (p q r : Int) (hx : a.eval x = .int k p) (hy : a.eval y = .int k q) (hr : r = min p q)
    (h : wpList P ops Q rest (a.put o.dst (.int k r)) W) : wpList P ops Q (o :: rest) a W := by
  refine wpList_plain hgd fun K hK => ?_
  unfold Oper.wp execOp
  have e : (if q < p then q else p) = r := by rw [hr]; split <;> omega
  simp only [ho, resolve, invoke, builtin, Sem.run_bind, Sem.run_pure, Result.andThen_ok, List.map_toArray, List.map_cons, List.map_nil, hx, hy, xw, yO, e]
  exact hK _ _ h
theorem vH (t1 t2 ty : TypeId) (ht : P.underlying t1 = some (.slice 5)) (hinfo : (P.info? 5).map (·.size) = some 1) {W : World} {g off m1 c1 m2 c2 : Nat} {A1 A2 : Option Addr} {bs ys : List Int}
    (hg : W.heap[g]? = some (.cells (bv bs) 5 (0, 0))) (hA : 0 < min m2 m1 → A1 = some ⟨g, off, none⟩) (hm : off + m1 ≤ bs.length) (HR : Kd.C (Kd.int .u8) W A2 m2 ys) :
    ∃ w1, (Builtin.copy_ #[t1, t2] ty #[.slice A1 m1 c1, .slice A2 m2 c2]).run P W = .ok (.int .i64 ((min m2 m1 : Nat) : Int)) w1 ∧ w1.heap[g]? = some (.cells (bv (Kd.laid bs off (min m2 m1) ys)) 5 (0, 0)) ∧ W.grownBy w1 (some g) := by
  have hy : ys.length = m2 := HR.1
  rcases Nat.eq_zero_or_pos (min m2 m1) with h0 | hp
  · refine ⟨W, ?_, by rw [h0]; simpa [Kd.laid] using hg, World.grownBy.refl W _⟩
    have := run_copy_none (P := P) W t1 t2 ty 5 A1 A2 m1 c1 m2 c2 ht hinfo h0
    rw [this, h0]
    rfl
  · obtain ⟨k, hk⟩ : ∃ k, k = min m2 m1 := ⟨_, rfl⟩
    rw [← hk] at hp hA ⊢
    have e1 := hA hp
    subst e1
    obtain ⟨ad, rfl, hr⟩ := HR.2.2 (by omega)
    have hkl : ((ys.take k).map (Value.int .u8)).length = k := by simp; omega
    have hrun := run_copy_row (P := P) W t1 t2 ty 5 g off m1 c1 ad m2 c2 (bv bs) 5 ((ys.take k).map (Value.int .u8)) ht hinfo hg (by rw [hkl]; exact hk) (fun j v hj => by
      have hj' : j < k := by rw [← hkl]; exact (List.getElem?_eq_some_iff.1 hj).1
      rw [List.getElem?_map, List.getElem?_take_of_lt hj'] at hj
      obtain ⟨x, hx, rfl⟩ := Option.map_eq_some_iff.1 hj
      obtain ⟨c, h1, h2, h3⟩ := hr j x hx
      obtain rfl : c = [Value.int .u8 x] := h2
      have := h3 0 _ rfl
      rwa [show (Kd.int .u8).sz = 1 from rfl, Nat.mul_one, Nat.add_zero] at this) (by rw [hkl, VJ]; omega) (fun v hv => by
      obtain ⟨x, _, rfl⟩ := List.mem_map.1 hv
      simp [Value.oneCell'])
    rw [hkl] at hrun
    refine ⟨_, hrun, ?_, ?_⟩
    · rw [setRow_heap _ _ _ _ _ _ hg]
      congr 2
      simp only [bv, Kd.laid, List.map_append, List.map_take, List.map_drop, List.append_assoc]
    · exact ⟨rfl, rfl, rfl, by simp [World.setRow], fun i hi hne => setRow_other _ _ _ _ (fun e => hne (by rw [e]))⟩
theorem zbI (hgd : o.guard = none) (s x : Operand) (t1 t2 : TypeId) (ho : o.op = .call { callee := .builtin .copy, args := #[s, x], argTypes := #[t1, t2] }) (ht : P.underlying t1 = some (.slice 5)) (hinfo : (P.info? 5).map (·.size) = some 1)
    {W : World} (g off m1 c1 m2 c2 : Nat) (A1 A2 : Option Addr) (bs ys : List Int) (N : Nat) (hN : N = min m2 m1) (hs : a.eval s = .slice A1 m1 c1) (hx : a.eval x = .slice A2 m2 c2)
    (hg : W.heap[g]? = some (.cells (bv bs) 5 (0, 0))) (hA : 0 < N → A1 = some ⟨g, off, none⟩) (hm : off + m1 ≤ bs.length) (HR : Kd.C (Kd.int .u8) W A2 m2 ys)
    (h : ∀ w1, Hid (w1.heap[g]? = some (.cells (bv (Kd.laid bs off N ys)) 5 (0, 0))) → W.grownBy w1 (some g) → wpList P ops Q rest (a.put o.dst (.int .i64 (N : Int))) w1) : wpList P ops Q (o :: rest) a W := by
  subst hN
  obtain ⟨w1, hr, h1, h2⟩ := vH (P := P) t1 t2 o.type ht hinfo (c1 := c1) (c2 := c2) hg hA hm HR
  refine wpList_plain hgd fun K hK => ?_
  unfold Oper.wp execOp
  simp only [ho, resolve, invoke, builtin, Sem.run_bind, Sem.run_pure, Result.andThen_ok, List.map_toArray, List.map_cons, List.map_nil, hs, hx, hr]
  exact hK _ _ (h w1 h1 h2)
theorem kS {Kc : Act → World → Prop} (hw : Region.wanted o (yielded ops a.tmps) = true) (s x : Operand) (t1 t2 : TypeId) (ho : o.op = .call { callee := .builtin .copy, args := #[s, x], argTypes := #[t1, t2] }) (ht : P.underlying t1 = some (.slice 5)) (hinfo : (P.info? 5).map (·.size) = some 1)
    {W : World} (g off m1 c1 m2 c2 : Nat) (A1 A2 : Option Addr) (bs ys : List Int) (N : Nat) (hN : N = min m2 m1) (hs : a.eval s = .slice A1 m1 c1) (hx : a.eval x = .slice A2 m2 c2)
    (hg : W.heap[g]? = some (.cells (bv bs) 5 (0, 0))) (hA : 0 < N → A1 = some ⟨g, off, none⟩) (hm : off + m1 ≤ bs.length) (HR : Kd.C (Kd.int .u8) W A2 m2 ys)
    (h : ∀ w1, Hid (w1.heap[g]? = some (.cells (bv (Kd.laid bs off N ys)) 5 (0, 0))) → W.grownBy w1 (some g) → Kc (a.put o.dst (.int .i64 (N : Int))) w1) :
    if Region.wanted o (yielded ops a.tmps) = true then Oper.wp P o a W Kc Q else Kc (a.put o.dst undef) W := by
  subst hN
  obtain ⟨w1, hr, h1, h2⟩ := vH (P := P) t1 t2 o.type ht hinfo (c1 := c1) (c2 := c2) hg hA hm HR
  rw [if_pos hw]
  unfold Oper.wp execOp
  simp only [ho, resolve, invoke, builtin, Sem.run_bind, Sem.run_pure, Result.andThen_ok, List.map_toArray, List.map_cons, List.map_nil, hs, hx, hr]
  exact h w1 h1 h2
end
structure Fr2 (g B : Nat) (w w' : World) : Prop where
  os : w'.os = w.os
  tape : w'.tape = w.tape
  output : w'.output = w.output
  size : w.heap.size ≤ w'.heap.size
  block : ∀ i, i < w.heap.size → i ≠ g → i ≠ B → w'.heap[i]? = w.heap[i]?
structure yt (w : World) (g B M : Nat) (q : List Int) : Prop where
  ex : ∃ (f : Nat) (bs : List Int), w.heap[g]? = some (.cells #[.slice (some ⟨B, 0, none⟩) M M, .int .i64 (f : Int), .int .i64 (q.length : Int)] 186 (0, 0)) ∧
    w.heap[B]? = some (.cells (bv bs) 5 (0, 0)) ∧ bs.length = M ∧ M ≤ 65536 ∧ q.length ≤ M ∧ (f = 0 ∨ f < M) ∧ ∀ i, i < q.length → q[i]? = bs[(f + i) % M]?
theorem yt.ne {w : World} {g B M : Nat} {q : List Int} (h : yt w g B M q) : g ≠ B := by
  obtain ⟨f, bs, hg, hB, _⟩ := h.ex
  rintro rfl
  rw [hg] at hB
  simp at hB
theorem yt.lt {w : World} {g B M : Nat} {q : List Int} (h : yt w g B M q) : g < w.heap.size ∧ B < w.heap.size := by
  obtain ⟨f, bs, hg, hB, _⟩ := h.ex
  exact ⟨zF hg, zF hB⟩
theorem yt.le {w : World} {g B M : Nat} {q : List Int} (h : yt w g B M q) : M ≤ 65536 ∧ q.length ≤ M := by
  obtain ⟨f, bs, _, _, _, h1, h2, _⟩ := h.ex
  exact ⟨h1, h2⟩
theorem yt.keep {w w' : World} {g B M : Nat} {q : List Int} (h : yt w g B M q) (hg : w'.heap[g]? = w.heap[g]?) (hB : w'.heap[B]? = w.heap[B]?) : yt w' g B M q := by
  obtain ⟨f, bs, h1, h2, h3⟩ := h.ex
  exact ⟨f, bs, hg.trans h1, hB.trans h2, h3⟩
theorem yt.below {w w' : World} {g B M : Nat} {q : List Int} (h : yt w g B M q) (hb : Below w.heap.size w w') : yt w' g B M q := h.keep (hb.block g h.lt.1) (hb.block B h.lt.2)
theorem Fr2.trans {g B : Nat} {w w1 w2 : World} (h : Fr2 g B w w1) (k : Fr2 g B w1 w2) : Fr2 g B w w2 := ⟨k.os.trans h.os, k.tape.trans h.tape, k.output.trans h.output, Nat.le_trans h.size k.size, fun i hi h1 h2 => (k.block i (Nat.lt_of_lt_of_le hi h.size) h1 h2).trans (h.block i hi h1 h2)⟩
theorem Fr2.of_below {g B : Nat} {w w1 : World} (h : Below w.heap.size w w1) : Fr2 g B w w1 := ⟨h.os, h.tape, h.output, h.size, fun i hi _ _ => h.block i hi⟩
theorem Fr2.of_grown {g B : Nat} {w w1 : World} {r : Option Nat} (h : w.grownBy w1 r) (hr : r = some g ∨ r = some B ∨ r = none) : Fr2 g B w w1 := ⟨h.os, h.tape, h.output, h.size, fun i hi h1 h2 => h.block i hi (by rcases hr with rfl | rfl | rfl <;> simp <;> assumption)⟩
theorem Fr2.set {g B : Nat} (w : World) (i : Nat) (v : Value) : Fr2 g B w (w.setCell ⟨g, i, none⟩ v) := ⟨rfl, rfl, rfl, by simp [World.setCell], fun j hj h1 h2 => Below.heap_setCell w _ v j h1⟩
theorem WF (bs q : List Int) (f M m d : Nat) (hl : bs.length = M) (hq : q.length ≤ M) (hf : f = 0 ∨ f < M) (hm : m ≤ q.length) (hd : d = min (M - f) m) (hc : ∀ i, i < q.length → q[i]? = bs[(f + i) % M]?) :
    Kd.laid (Kd.laid (List.replicate m 0) 0 d (bs.drop f)) d (m - d) bs = q.take m := by
  have hfM : f ≤ M := by omega
  apply List.ext_getElem?
  intro i
  unfold Kd.laid
  by_cases hi : i < m
  · rw [List.getElem?_take_of_lt hi, hc i (by omega)]
    by_cases h : i < d
    · rw [List.getElem?_append_left (by simp; omega), List.getElem?_take_of_lt h, List.take_zero, List.nil_append, List.getElem?_append_left (by simp; omega), List.getElem?_take_of_lt h, List.getElem?_drop, Nat.mod_eq_of_lt (by omega)]
    · have hmod : (f + i) % M = f + i - M := by rw [Nat.mod_eq_sub_mod (by omega), Nat.mod_eq_of_lt (by omega)]
      rw [List.getElem?_append_right (by simp; omega), List.getElem?_append_left (by simp; omega), hmod]
      simp only [List.length_take, List.length_append, List.length_drop, List.length_replicate, List.length_nil, List.take_zero]
      rw [List.getElem?_take_of_lt (by omega)]
      congr 1
      omega
  · rw [List.getElem?_eq_none (by simp; omega), List.getElem?_eq_none (by simp; omega)]
theorem zbs (bs q l : List Int) (f M m d : Nat) (hl : bs.length = M) (hf : f = 0 ∨ f < M) (hm : m ≤ l.length) (hqm : q.length + m ≤ M) (hm0 : 0 < m) (hd : d = min m (M - (f + q.length) % M)) (hc : ∀ i, i < q.length → q[i]? = bs[(f + i) % M]?) :
    ∀ i, i < (q ++ l.take m).length → (q ++ l.take m)[i]? = (Kd.laid (Kd.laid bs ((f + q.length) % M) d (l.take m)) 0 (m - d) ((l.take m).drop d))[(f + i) % M]? := by
  intro i hi
  have hlt : (l.take m).length = m := by rw [List.length_take]; omega
  have hi' : i < q.length + m := by rw [List.length_append, hlt] at hi; exact hi
  obtain ⟨t, ht⟩ : ∃ t, t = (f + q.length) % M := ⟨_, rfl⟩
  have htM : t < M := by rw [ht]; exact Nat.mod_lt _ (by omega)
  have hfM : f < M := by omega
  rw [← ht] at hd ⊢
  have htv : t = f + q.length ∨ t + M = f + q.length := by
    rcases Nat.lt_or_ge (f + q.length) M with h | h
    · left; rw [ht, Nat.mod_eq_of_lt h]
    · right; rw [ht, Nat.mod_eq_sub_mod h, Nat.mod_eq_of_lt (by omega)]; omega
  obtain ⟨p, hp⟩ : ∃ p, p = (f + i) % M := ⟨_, rfl⟩
  have hpM : p < M := by rw [hp]; exact Nat.mod_lt _ (by omega)
  have hpv : p = f + i ∨ p + M = f + i := by
    rcases Nat.lt_or_ge (f + i) M with h | h
    · left; rw [hp, Nat.mod_eq_of_lt h]
    · right; rw [hp, Nat.mod_eq_sub_mod h, Nat.mod_eq_of_lt (by omega)]; omega
  rw [← hp]
  have hdl : ((l.take m).drop d).length = m - d := by rw [List.length_drop, hlt]
  have hout : ∀ x, (Kd.laid (Kd.laid bs t d (l.take m)) 0 (m - d) ((l.take m).drop d))[x]? = if x < m - d then ((l.take m).drop d)[x]? else (Kd.laid bs t d (l.take m))[x]? := by
    intro x
    unfold Kd.laid
    rw [List.take_zero, List.nil_append]
    by_cases h : x < m - d
    · rw [if_pos h, List.getElem?_append_left (by rw [List.length_take, hdl]; omega), List.getElem?_take_of_lt h]
    · rw [if_neg h, List.getElem?_append_right (by rw [List.length_take, hdl]; omega), List.getElem?_drop, List.length_take, hdl]
      congr 1
      omega
  have hin : ∀ x, (Kd.laid bs t d (l.take m))[x]? = if x < t then bs[x]? else if x < t + d then (l.take m)[x - t]? else bs[x]? := by
    intro x
    unfold Kd.laid
    by_cases h : x < t
    · rw [if_pos h, List.getElem?_append_left (by rw [List.length_take]; omega), List.getElem?_take_of_lt h]
    · rw [if_neg h, List.getElem?_append_right (by rw [List.length_take]; omega), List.length_take, show min t bs.length = t by omega]
      by_cases h2 : x < t + d
      · rw [if_pos h2, List.getElem?_append_left (by rw [List.length_take, hlt]; omega), List.getElem?_take_of_lt (by omega)]
      · rw [if_neg h2, List.getElem?_append_right (by rw [List.length_take, hlt]; omega), List.getElem?_drop, List.length_take, hlt]
        congr 1
        omega
  rw [hout, hin]
  by_cases hiq : i < q.length
  · rw [List.getElem?_append_left hiq, hc i hiq, ← hp]
    rw [if_neg (by omega)]
    by_cases h1 : p < t
    · rw [if_pos h1]
    · rw [if_neg h1, if_neg (by omega)]
  · rw [List.getElem?_append_right (by omega)]
    by_cases h0 : p < m - d
    · rw [if_pos h0, List.getElem?_drop]
      congr 1
      omega
    · rw [if_neg h0, if_neg (by omega), if_pos (by omega)]
      congr 1
      omega
theorem WR (bs q : List Int) (f M m : Nat) (hM : 0 < M) (hc : ∀ i, i < q.length → q[i]? = bs[(f + i) % M]?) : ∀ i, i < (q.drop m).length → (q.drop m)[i]? = bs[((f + m) % M + i) % M]? := by
  intro i hi
  rw [List.length_drop] at hi
  rw [List.getElem?_drop, hc (m + i) (by omega), Nat.mod_add_mod, Nat.add_assoc]
attribute [local go_sem] yN yO xu xw zk zo
theorem zab (w : World) (g B M : Nat) (q : List Int) (h : yt w g B M q) :
    Calls Tryz.prog 103 #[.pointer (some ⟨g, 0, none⟩)] w fun e w' => e = .returned (.int .i64 (q.length : Int)) ∧ ∃ n, w' = w.drewN n := by
  obtain ⟨f, bs, hg, hB, hl, hM, hq, hf, hc⟩ := h.ex
  obtain ⟨c0, c1, c2⟩ := zS hg
  have hu186 := Tryz.underlying186
  go_enter Tryz.func103, Tryz.ntmps103
  go_wp2_with (fail)
  go_ret
  exact ⟨rfl, 0, rfl⟩
theorem ZQ (w : World) (g B M : Nat) (q : List Int) (h : yt w g B M q) :
    Calls Tryz.prog 61 #[.pointer (some ⟨g, 0, none⟩)] w fun e w' => e = .returned (.int .i64 ((M : Int) - q.length)) ∧ ∃ n, w' = w.drewN n := by
  obtain ⟨f, bs, hg, hB, hl, hM, hq, hf, hc⟩ := h.ex
  obtain ⟨c0, c1, c2⟩ := zS hg
  have hu186 := Tryz.underlying186
  have hw : wrap64 ((M : Int) - (q.length : Int)) = (M : Int) - q.length := by unfold wrap64; omega
  go_enter Tryz.func61, Tryz.ntmps61
  go_wp2_with (fail)
  go_quiet (fail)
  go_wp2
  go_ret
  exact ⟨by first | rfl | rw [hw], _, rfl⟩
theorem Xr (w : World) (m : Nat) (hm : m ≤ 65536) : yt ((w.alloc (.cells (madeCells #[Value.int .u8 0] m) 5)).alloc (.cells #[.slice (some ⟨w.heap.size, 0, none⟩) m m, .int .i64 0, .int .i64 0] 186)) (w.heap.size + 1) w.heap.size m [] :=
  ⟨0, List.replicate m 0, by
    have := zi (w.alloc (.cells (madeCells #[Value.int .u8 0] m) 5)) (.cells #[.slice (some ⟨w.heap.size, 0, none⟩) m m, .int .i64 0, .int .i64 0] 186)
    rw [show (w.alloc (.cells (madeCells #[Value.int .u8 0] m) 5)).heap.size = w.heap.size + 1 by simp] at this
    exact this, by rw [← Xj]; exact zg (zi w _) _, by simp, hm, by simp, .inl rfl, by simp⟩
theorem ZT (w : World) (o o' : Obj) : Below w.heap.size w ((w.alloc o).alloc o') := ((Below.refl _ _).alloc (Nat.le_refl _) _).alloc (by simp) _
theorem Qt (m : Nat) (h2 : m ≤ 65536) (w : World) :
    Calls Tryz.prog 55 #[.int .i64 (m : Int)] w fun e w' => ∃ g B, e = .returned (.pointer (some ⟨g, 0, none⟩)) ∧ yt w' g B m [] ∧ w.heap.size ≤ g ∧ w.heap.size ≤ B ∧ Below w.heap.size w w' := by
  have hu186 := Tryz.underlying186
  have hu59 := Tryz.underlying59
  have hmk := run_make_row' (P := Tryz.prog) 59 5 (.int .u8 0) 1 Tryz.underlying59 (by kernel_rfl) rfl .i64 .i64 m (by omega) (by omega)
  go_enter Tryz.func55, Tryz.ntmps55
  go_wp2_with (fail)
  go_ret
  exact ⟨_, _, rfl, Xr w m (by omega), by omega, by omega, ZT _ _ _⟩
theorem QN (n : Int) (h : n < 0) (w : World) :
    Calls Tryz.prog 55 #[.int .i64 n] w fun e w' => ∃ g B, e = .returned (.pointer (some ⟨g, 0, none⟩)) ∧ yt w' g B 0 [] ∧ w.heap.size ≤ g ∧ w.heap.size ≤ B ∧ Below w.heap.size w w' := by
  have hu186 := Tryz.underlying186
  have hu59 := Tryz.underlying59
  have hmk := run_make_row' (P := Tryz.prog) 59 5 (.int .u8 0) 1 Tryz.underlying59 (by kernel_rfl) rfl .i64 .i64 0 (by omega) (by omega)
  rw [Int.natCast_zero] at hmk
  go_enter Tryz.func55, Tryz.ntmps55
  go_wp2_with (fail)
  go_ret
  exact ⟨_, _, rfl, Xr w 0 (by omega), by omega, by omega, ZT _ _ _⟩
theorem Xv (n : Int) (M : Nat) (hM : M = 65536) (h : 65536 < n) (w : World) :
    Calls Tryz.prog 55 #[.int .i64 n] w fun e w' => ∃ g B, e = .returned (.pointer (some ⟨g, 0, none⟩)) ∧ yt w' g B M [] ∧ w.heap.size ≤ g ∧ w.heap.size ≤ B ∧ Below w.heap.size w w' := by
  have hu186 := Tryz.underlying186
  have hu59 := Tryz.underlying59
  have hmk := run_make_row' (P := Tryz.prog) 59 5 (.int .u8 0) 1 Tryz.underlying59 (by kernel_rfl) rfl .i64 .i64 M (by omega) (by omega)
  rw [show ((M : Nat) : Int) = 65536 by omega] at hmk
  have HM := hQ hM
  clear hM
  go_enter Tryz.func55, Tryz.ntmps55
  go_wp2_with (fail)
  go_ret
  have hM := HM.out
  exact ⟨_, _, rfl, Xr w M (by omega), by omega, by omega, ZT _ _ _⟩
theorem vK (n : Int) (w : World) :
    Calls Tryz.prog 55 #[.int .i64 n] w fun e w' => ∃ g B, e = .returned (.pointer (some ⟨g, 0, none⟩)) ∧ yt w' g B (min (max n 0) 65536).toNat [] ∧ w.heap.size ≤ g ∧ w.heap.size ≤ B ∧ Below w.heap.size w w' := by
  by_cases h : n < 0
  · rw [show (min (max n 0) 65536).toNat = 0 by omega]
    exact QN n h w
  · by_cases h2 : 65536 < n
    · rw [show (min (max n 0) 65536).toNat = 65536 by omega]
      exact Xv n 65536 rfl h2 w
    · obtain ⟨m, rfl⟩ := Int.eq_ofNat_of_zero_le (show 0 ≤ n by omega)
      rw [show (min (max (m : Int) 0) 65536).toNat = m by omega]
      exact Qt m (by omega) w
theorem WI (w : World) (g B M : Nat) (q : List Int) (h : yt w g B M q) (n : Int) :
    Calls Tryz.prog 110 #[.pointer (some ⟨g, 0, none⟩), .int .i64 n] w fun e w' => ∃ v, e = .returned v ∧ Kd.R (Kd.int .u8) 5 w' w.heap.size (fun _ => True) v (q.take n.toNat) ∧ Below w.heap.size w w' := by
  have hu186 := Tryz.underlying186
  have hu59 := Tryz.underlying59
  have hgB := h.ne
  obtain ⟨f, bs, hg, hB, hl, hM, hq, hf, hc⟩ := h.ex
  have hlt := h.lt
  obtain ⟨c0, c1, c2⟩ := zS hg
  obtain ⟨m, hm⟩ : ∃ m, m = min n.toNat q.length := ⟨_, rfl⟩
  have hmk := run_make_row' (P := Tryz.prog) 59 5 (.int .u8 0) 1 Tryz.underlying59 (by kernel_rfl) rfl .i64 .i64 m (by omega) (by omega)
  obtain ⟨n1, hn1⟩ : ∃ n1 : Int, n1 = max n 0 := ⟨_, rfl⟩
  have hmn : (m : Int) = min n1 (q.length : Int) := by omega
  obtain ⟨d, hd⟩ : ∃ d, d = min (M - f) m := ⟨_, rfl⟩
  obtain ⟨A1, hA1, hsl⟩ := Qb B f M M (by omega) (Nat.le_refl _)
  obtain ⟨A2, hA2, hsl2⟩ := Qb w.heap.size d m m (by omega) (Nat.le_refl _)
  have N1 := hQ hn1
  have N2 := hQ hmn
  have N3 := hQ hm
  have N4 := hQ hg
  have N5 := hQ hB
  have N6 := hQ hl
  have N7 := hQ hc
  have N8 := hQ hd
  have N9 := hQ hA1
  have N10 := hQ hA2
  clear hn1 hmn hm hg hB hl hc hd hA1 hA2
  go_enter Tryz.func110, Tryz.ntmps110
  go_wp2_with (first | ((with_reducible refine zN (N := 8) rfl ?_); refine Zr rfl (.tmp 7) (.const (.int .i64 0)) _ rfl .i64 n 0 n1 rfl rfl N1.out ?_) | ((with_reducible refine zN (N := 13) rfl ?_); refine Vm rfl (.tmp 8) (.tmp 12) _ rfl .i64 n1 q.length m rfl rfl N2.out ?_))
  have D1 := hQ (zg N4.out (.cells (madeCells #[Value.int IntKind.u8 0] m) 5))
  have D2 := hQ (zg N5.out (.cells (madeCells #[Value.int IntKind.u8 0] m) 5))
  have D3 := hQ (zaf w m)
  have D4 := hQ ((Below.refl w.heap.size w).alloc (Nat.le_refl _) (.cells (madeCells #[Value.int IntKind.u8 0] m) 5))
  generalize hw1 : w.alloc (.cells (madeCells #[Value.int IntKind.u8 0] m) 5) = w1 at *
  clear hw1
  obtain ⟨e0, e1, e2⟩ := zS D1.out
  go_region_law (refine kS (by rfl) (.tmp 15) (.tmp 24) 59 59 rfl Tryz.underlying59 (by kernel_rfl) w.heap.size 0 m m (M - f) (M - f) _ _ (List.replicate m 0) (bs.drop f) d N8.out rfl rfl D3.out (fun _ => rfl) (by simp) (zbp D2.out N6.out hM N9.out) ?_; intro w2 hH hG; have E3 := hQ hH; have E1 := hQ (yG (w := w1.drew) D1.out hG (by simp; omega)); have E2 := hQ (yG (w := w1.drew) D2.out hG (by simp; omega)); have E4 := hQ (Below.grown (zl D4.out) hG (zl D4.out).size (fun k hk => by injection hk with hk; omega)); clear hH hG D1 D2 D3 D4 e0 e1 e2)
  all_goals
    go_wp2
    obtain ⟨e0, e1, e2⟩ := zS E1.out
    go_region_law (refine kS (by rfl) (.tmp 28) (.tmp 32) 59 59 rfl Tryz.underlying59 (by kernel_rfl) w.heap.size d (m - d) (m - d) M M _ _ (Kd.laid (List.replicate m 0) 0 d (bs.drop f)) bs (m - d) (by have := N3.out; omega) rfl rfl E3.out N10.out (by rw [Kd.qK _ _ _ _ (by simp; have := N8.out; omega) (by simp; have := N8.out; have := N6.out; omega)]; simp; have := N8.out; omega) (zbp (f := 0) E2.out N6.out hM (fun _ => rfl)) ?_; intro w3 hH hG; have F3 := hQ hH; have F4 := hQ (Below.grown (zl E4.out) hG (zl E4.out).size (fun k hk => by injection hk with hk; omega)); clear hH hG E1 E2 E3 E4 e0 e1 e2)
    all_goals
      go_wp2
      go_ret
      have hLL := WF bs q f M m d N6.out hq hf (by have := N3.out; omega) N8.out N7.out
      have hR := F3.out
      rw [hLL] at hR
      have hlm : (q.take m).length = m := by rw [List.length_take]; have := N3.out; omega
      have hqt : q.take n.toNat = q.take m := by rw [N3.out, List.take_eq_take_min]
      have hRR := zbB (base := w.heap.size) (ok := fun _ => True) hR (Nat.le_refl _) (by rw [hlm]; have := N3.out; omega) trivial
      rw [hlm] at hRR
      exact ⟨_, rfl, by rw [hqt]; exact hRR, F4.out⟩
theorem Zo (w : World) (g B M : Nat) (q : List Int) (h : yt w g B M q) (n : Int) (k : Nat) (hk : k = (q.take n.toNat).length) :
    Calls Tryz.prog 110 #[.pointer (some ⟨g, 0, none⟩), .int .i64 n] w fun e w' => ∃ A c, e = .returned (.slice A k c) ∧ Kd.R (Kd.int .u8) 5 w' w.heap.size (fun _ => True) (.slice A k c) (q.take n.toNat) ∧ Below w.heap.size w w' := by
  refine (WI w g B M q h n).mono ?_
  rintro e w1 ⟨v, rfl, hR, hb⟩
  obtain ⟨Ao, co, eo⟩ := Kd.yc hR
  subst eo
  rw [← hk] at hR ⊢
  exact ⟨_, _, rfl, hR, hb⟩
theorem vP (w : World) (g B M : Nat) (q : List Int) (h : yt w g B M q) (n : Int) (k : Nat) (hk : k = (q.take n.toNat).length) :
    Calls Tryz.prog 67 #[.pointer (some ⟨g, 0, none⟩), .int .i64 n] w fun e w' => ∃ A c, e = .returned (.slice A k c) ∧ Kd.R (Kd.int .u8) 5 w' w.heap.size (fun _ => True) (.slice A k c) (q.take n.toNat) ∧ yt w' g B M (q.drop n.toNat) ∧ Fr2 g B w w' := by
  have hu186 := Tryz.underlying186
  have hu59 := Tryz.underlying59
  have H := hQ h
  have hlt := h.lt
  have hle := h.le
  have hgB := h.ne
  have hkq : k ≤ q.length := by rw [hk, List.length_take]; omega
  have HK := hQ hk
  obtain ⟨f, bs, hg, hB, hl, hM, hq, hf, hc⟩ := h.ex
  have HG := hQ hg
  have HBB := hQ hB
  have HL := hQ hl
  have HC := hQ hc
  clear hk h hg hB hl hc
  by_cases hk0 : 0 < k
  · have hd : decide (0 < (k : Int)) = true := decide_eq_true (by omega)
    have R1 := hQ (show ((f : Int) + (k : Int)) % (M : Int) = (((f + k) % M : Nat) : Int) by rw [Int.natCast_emod, Int.natCast_add])
    have R2 := hQ (show (q.length : Int) - (k : Int) = ((q.length - k : Nat) : Int) by omega)
    have hM0 : ¬ (M : Int) = 0 := by omega
    go_enter Tryz.func67, Tryz.ntmps67
    go_wp2_with (go_at_call 110; refine (Zo w g B M q H.out n k HK.out).mono ?_; rintro e w1 ⟨A, c, rfl, hR, hb⟩)
    have HR := hQ hR
    have HB := hQ hb
    have D1 := hQ (zb HG.out hb)
    have D2 := hQ (zb HBB.out hb)
    clear hR hb
    obtain ⟨c0, c1, c2⟩ := zS D1.out
    obtain ⟨f0, f1, f2⟩ := xD D1.out
    go_region
    go_wp2
    go_ret
    have hfin1 := zQ (zQ (zn D1.out) 1 (.int .i64 (((f : Int) + (k : Int)) % (M : Int))) rfl) 2 (.int .i64 ((q.length : Int) - (k : Int))) rfl
    have hfin2 := yI (yI (zn D2.out) (show B ≠ (⟨g, 1, none⟩ : Addr).block from fun e => hgB e.symm) (.int .i64 (((f : Int) + (k : Int)) % (M : Int)))) (show B ≠ (⟨g, 2, none⟩ : Addr).block from fun e => hgB e.symm) (.int .i64 ((q.length : Int) - (k : Int)))
    have hfin3 := Kd.kw (Kd.kw (Kd.vg (Kd.xZ HR.out)) (p := ⟨g, 1, none⟩) (fun k_ h_ => by have := h_.2.1; show k_ ≠ g; omega) (.int .i64 (((f : Int) + (k : Int)) % (M : Int)))) (p := ⟨g, 2, none⟩) (fun k_ h_ => by have := h_.2.1; show k_ ≠ g; omega) (.int .i64 ((q.length : Int) - (k : Int)))
    have hfr : Fr2 g B w ((w1.drew.setCell ⟨g, 1, none⟩ (.int .i64 (((f : Int) + (k : Int)) % (M : Int)))).setCell ⟨g, 2, none⟩ (.int .i64 ((q.length : Int) - (k : Int)))) := (Fr2.of_below HB.out).trans ((Fr2.of_below (zl (Below.refl _ _))).trans ((Fr2.set _ _ _).trans (Fr2.set _ _ _)))
    have hkn : (q.take n.toNat).length = k := HK.out.symm
    rw [List.length_take] at hkn
    have hdr : q.drop n.toNat = q.drop k := by
      rcases Nat.lt_or_ge n.toNat q.length with h0 | h0
      · rw [show n.toNat = k by omega]
      · rw [List.drop_eq_nil_of_le (by omega), List.drop_eq_nil_of_le (by omega)]
    refine ⟨_, _, rfl, Kd.yX hfin3 (fun _ _ => trivial), ⟨(f + k) % M, bs, ?_, hfin2, HL.out, hM, by rw [List.length_drop]; omega, .inr (Nat.mod_lt _ (by omega)), ?_⟩, hfr⟩
    · rw [hdr, List.length_drop, ← R1.out, ← R2.out]
      exact hfin1
    · rw [hdr]
      exact WR bs q f M k (by omega) HC.out
  · have hd : decide (0 < (k : Int)) = false := decide_eq_false (by omega)
    go_enter Tryz.func67, Tryz.ntmps67
    go_wp2_with (go_at_call 110; refine (Zo w g B M q H.out n k HK.out).mono ?_; rintro e w1 ⟨A, c, rfl, hR, hb⟩)
    go_ret
    refine ⟨_, _, rfl, hR, ?_, Fr2.of_below hb⟩
    have h1 := H.out.below hb
    have h2 := HK.out
    rw [List.length_take] at h2
    rcases Nat.eq_zero_or_pos n.toNat with h0 | h0
    · rw [h0, List.drop_zero]
      exact h1
    · have : q = [] := List.eq_nil_of_length_eq_zero (by omega)
      subst this
      rw [List.drop_nil]
      exact h1
theorem zb5 {w w1 : World} {A : Option Addr} {n : Nat} {l : List Int} {B : Nat} (h : Kd.C (Kd.int .u8) w A n l) (hg : w.grownBy w1 (some B)) (hne : ∀ a, A = some a → a.block ≠ B) : Kd.C (Kd.int .u8) w1 A n l := by
  refine ⟨h.1, h.2.1, fun h0 => ?_⟩
  obtain ⟨ad, rfl, hr⟩ := h.2.2 h0
  refine ⟨ad, rfl, fun j p hp => ?_⟩
  obtain ⟨c, h1, h2, h3⟩ := hr j p hp
  refine ⟨c, h1, h2, fun i u hu => ?_⟩
  have hb : (ad.add (j * (Kd.int .u8).sz + i)).block = ad.block := by unfold Addr.add; split <;> rfl
  exact cell_grown hg (h3 i u hu) (fun e => hne ad rfl (by rw [← hb]; injection e))
theorem Kn {w : World} {A : Option Addr} {n : Nat} {l : List Int} (h : Kd.C (Kd.int .u8) w A n l) (m : Nat) (hm : m ≤ n) : Kd.C (Kd.int .u8) w A m (l.take m) := by
  have := zcy h 0 m (by omega) A (fun _ => by cases A <;> simp [Addr.add])
  rwa [List.drop_zero] at this
theorem zcM {w : World} {A A1 : Option Addr} {n : Nat} {l : List Int} (h : Kd.C (Kd.int .u8) w A n l) (d : Nat) (hd : d ≤ n) (hA : 0 < n - d → A1 = A.map (·.add d)) : Kd.C (Kd.int .u8) w A1 (n - d) (l.drop d) := by
  have := zcy h d (n - d) (by omega) A1 hA
  rwa [List.take_of_length_le (by rw [List.length_drop]; have := h.1; omega)] at this
theorem C_cell {w : World} {A : Option Addr} {n : Nat} {l : List Int} (h : Kd.C (Kd.int .u8) w A n l) {g : Nat} (hA : A = some ⟨g, 0, none⟩) (i : Nat) (x : Int) (hi : l[i]? = some x) : w.cell? ⟨g, i, none⟩ = some (.int .u8 x) := by
  have hlt := (List.getElem?_eq_some_iff.1 hi).1
  have hl := h.1
  obtain ⟨ad, e, hr⟩ := h.2.2 (by omega)
  rw [hA] at e
  injection e with e
  subst e
  obtain ⟨c, h1, h2, h3⟩ := hr i x hi
  obtain rfl : c = [Value.int .u8 x] := h2
  have := h3 0 _ rfl
  rw [show (Kd.int .u8).sz = 1 from rfl, Nat.mul_one, Nat.add_zero] at this
  rw [← this]
  congr 1
  unfold Addr.add
  split <;> simp_all
theorem zc3 {w : World} {base B n c : Nat} {A : Option Addr} {l : List Int} {ok : Nat → Prop} (h : Kd.R (Kd.int .u8) 5 w base ok (.slice A n c) l) (hB : B < base) : n = l.length ∧ l.length ≤ c ∧ Kd.C (Kd.int .u8) w A l.length l ∧ (0 < l.length → ∀ a, A = some a → a.block ≠ B) := by
  obtain ⟨h1, h2, h3⟩ := Kd.zB h
  subst h1
  refine ⟨rfl, h2, h3, fun h0 a ha => ?_⟩
  obtain ⟨g, cap, e, hg, _, _⟩ := Kd.qm h h0
  injection e with e _ _
  rw [e] at ha
  injection ha with ha
  subst ha
  show g ≠ B
  omega
theorem QT (w : World) (g B M : Nat) (q : List Int) (h : yt w g B M q) (A0 : Option Addr) (c0 : Nat) (l : List Int) (hr : Kd.C (Kd.int .u8) w A0 l.length l) (hc0 : l.length ≤ c0) (hne : 0 < l.length → ∀ a, A0 = some a → a.block ≠ B) (m : Nat) (hm : m = min l.length (M - q.length)) :
    Calls Tryz.prog 66 #[.pointer (some ⟨g, 0, none⟩), .slice A0 l.length c0] w fun e w' => e = .returned (.int .i64 (m : Int)) ∧ yt w' g B M (q ++ l.take m) ∧ Fr2 g B w w' := by
  have hu186 := Tryz.underlying186
  have hu59 := Tryz.underlying59
  have H := hQ h
  have hlt := h.lt
  have hle := h.le
  have hgB := h.ne
  have HM := hQ hm
  have HR := hQ hr
  have HN := hQ hne
  have hml : m ≤ l.length := by omega
  have hmc : m ≤ c0 := by omega
  have hl9 : l.length ≤ 9223372036854775807 := by have := hr.2.1; omega
  have hqm : q.length + m ≤ M := by omega
  have hch := WW A0 m l.length c0 hmc
  obtain ⟨r, hr_⟩ : ∃ r : Int, r = (M : Int) - q.length := ⟨_, rfl⟩
  have hmin : (m : Int) = min (l.length : Int) r := by omega
  have N1 := hQ hr_
  have N2 := hQ hmin
  obtain ⟨f, bs, hg, hB, hl, hM, hq, hf, hc⟩ := h.ex
  have HG := hQ hg
  have HBB := hQ hB
  have HL := hQ hl
  have HC := hQ hc
  clear hm h hg hB hl hc hr hr_ hne hmin
  by_cases hm0 : m = 0
  · subst hm0
    go_enter Tryz.func66, Tryz.ntmps66
    go_wp2_with (first | (go_at_call 61; refine (ZQ w g B M q H.out).mono ?_; rintro e w1 ⟨rfl, nd, rfl⟩; rw [← N1.out]) | ((with_reducible refine zN (N := 12) rfl ?_); refine Vm rfl (.tmp 9) (.tmp 11) _ rfl .i64 l.length r 0 rfl rfl N2.out ?_))
    go_ret
    refine ⟨rfl, ?_, Fr2.of_below (zq (Below.refl _ _) _)⟩
    rw [List.take_zero, List.append_nil]
    exact H.out.below (zq (Below.refl _ _) _)
  · have hd : decide ((m : Int) = 0) = false := decide_eq_false (by omega)
    go_enter Tryz.func66, Tryz.ntmps66
    go_wp2_with (first | (go_at_call 61; refine (ZQ w g B M q H.out).mono ?_; rintro e w1 ⟨rfl, nd, rfl⟩; rw [← N1.out]) | ((with_reducible refine zN (N := 12) rfl ?_); refine Vm rfl (.tmp 9) (.tmp 11) _ rfl .i64 l.length r m rfl rfl N2.out ?_))
    have D1 := hQ (zm HG.out nd)
    have D2 := hQ (zm HBB.out nd)
    have D3 := hQ (Kd.yF HR.out nd)
    have D4 : Hid (Fr2 g B w (w.drewN nd)) := Fr2.of_below (zq (Below.refl _ _) _)
    generalize w.drewN nd = w1 at *
    obtain ⟨c0_, c1, c2⟩ := zS D1.out
    have hM0 : ¬ (M : Int) = 0 := by omega
    obtain ⟨t, ht⟩ : ∃ t, t = (f + q.length) % M := ⟨_, rfl⟩
    have htM : t < M := by rw [ht]; exact Nat.mod_lt _ (by omega)
    have hte : ((f : Int) + (q.length : Int)) % (M : Int) = (t : Int) := by rw [ht, Int.natCast_emod, Int.natCast_add]
    obtain ⟨A1, hA1, hsl⟩ := Qb B t M M (by omega) (Nat.le_refl _)
    obtain ⟨d, hd_⟩ : ∃ d, d = min m (M - t) := ⟨_, rfl⟩
    obtain ⟨A2, hA2, hsl2⟩ := Jt A0 d m c0 (by omega) hmc
    have T1 := hQ ht
    have T2 := hQ hA1
    have T3 := hQ hd_
    have T4 := hQ hA2
    clear ht hA1 hd_ hA2
    go_quiet (fail)
    rw [hte]
    clear hte
    have D5 := hQ (zm D1.out nq)
    have D6 := hQ (zm D2.out nq)
    have D7 := hQ (Kd.yF D3.out nq)
    have D8 := hQ (D4.out.trans (Fr2.of_below (zq (Below.refl _ _) nq)))
    generalize w1.drewN nq = w2 at *
    clear c0_ c1 c2 D1 D2 D3 D4
    obtain ⟨c0_, c1, c2⟩ := zS D5.out
    go_wp2_with ((with_reducible refine yj (b := .copy) (xs := #[.tmp 37, .tmp 38]) (ts := #[59, 59]) rfl ?_); refine zbI rfl (.tmp 37) (.tmp 38) 59 59 rfl Tryz.underlying59 (by kernel_rfl) B t (M - t) (M - t) m c0 _ _ bs (l.take m) d T3.out rfl rfl D6.out (fun h => T2.out (by have := T3.out; omega)) (by have := HL.out; omega) (Kn D7.out m hml) ?_; intro w3 hH hG)
    have E3 := hQ hH
    have E1 := hQ (yG D5.out hG (by simp; exact hgB))
    have E2 := hQ (zb5 (Kn D7.out m hml) hG (HN.out (by omega)))
    have E4 := hQ (D8.out.trans (Fr2.of_grown hG (.inr (.inl rfl))))
    clear hH hG D5 D6 D7 D8 c0_ c1 c2
    obtain ⟨c0_, c1, c2⟩ := zS E1.out
    go_region_law (refine kS (by rfl) (.tmp 43) (.tmp 46) 59 59 rfl Tryz.underlying59 (by kernel_rfl) B 0 M M (m - d) (c0 - d) _ _ (Kd.laid bs t d (l.take m)) ((l.take m).drop d) (m - d) (by omega) rfl rfl E3.out (fun _ => rfl) (by rw [Kd.qK _ _ _ _ (by have := T3.out; have := HL.out; omega) (by rw [List.length_take]; have := T3.out; omega)]; have := HL.out; omega) (zcM E2.out d (by have := T3.out; omega) T4.out) ?_; intro w4 hH hG; have F3 := hQ hH; have F1 := hQ (yG (w := w3.drew) E1.out hG (by simp; exact hgB)); have F4 := hQ ((E4.out.trans (Fr2.of_below (zl (Below.refl _ _)))).trans (Fr2.of_grown hG (.inr (.inl rfl)))); clear hH hG E1 E2 E3 E4 c0_ c1 c2)
    all_goals
      obtain ⟨c0_, c1, c2⟩ := zS F1.out
      obtain ⟨f0_, f1_, f2_⟩ := xD F1.out
      go_wp2
      go_ret
      have hfin1 := zQ F1.out 2 (.int .i64 ((q.length : Int) + (m : Int))) rfl
      have hfin2 := yI F3.out (show B ≠ (⟨g, 2, none⟩ : Addr).block from fun e => hgB e.symm) (.int .i64 ((q.length : Int) + (m : Int)))
      have hlm : (q ++ l.take m).length = q.length + m := by rw [List.length_append, List.length_take, Nat.min_eq_left hml]
      refine ⟨rfl, ⟨f, _, ?_, hfin2, ?_, hM, by omega, hf, ?_⟩, F4.out.trans (Fr2.set _ _ _)⟩
      · rw [hlm, Int.natCast_add]
        exact hfin1
      · rw [Kd.qK _ _ _ _ (by rw [Kd.qK _ _ _ _ (by have := T3.out; have := HL.out; omega) (by rw [List.length_take]; have := T3.out; omega)]; have := HL.out; have := T3.out; omega) (by rw [List.length_drop, List.length_take]; have := T3.out; omega), Kd.qK _ _ _ _ (by have := T3.out; have := HL.out; omega) (by rw [List.length_take]; have := T3.out; omega)]
        exact HL.out
      · have := zbs bs q l f M m d HL.out hf hml hqm (by omega) (by rw [← T1.out]; exact T3.out) HC.out
        rw [← T1.out] at this
        exact this
theorem jQ (w : World) (g B M : Nat) (q : List Int) (h : yt w g B M q) (A : Option Addr) (n c base : Nat) (l : List Int) (ok : Nat → Prop) (hR : Kd.R (Kd.int .u8) 5 w base ok (.slice A n c) l) (hB : B < base) (m : Nat) (hm : m = min n (M - q.length)) :
    Calls Tryz.prog 66 #[.pointer (some ⟨g, 0, none⟩), .slice A n c] w fun e w' => e = .returned (.int .i64 (m : Int)) ∧ yt w' g B M (q ++ l.take m) ∧ Fr2 g B w w' := by
  obtain ⟨h1, h2, h3, h4⟩ := zc3 hR hB
  subst h1
  exact QT w g B M q h A c l h3 h2 h4 m hm
structure St (w0 : World) (g B M : Nat) (q : List Int) (w : World) : Prop where
  r : yt w g B M q
  b : Below w0.heap.size w0 w
  g0 : w0.heap.size ≤ g
  B0 : w0.heap.size ≤ B
theorem zdJ (w : World) (g B M : Nat) (q : List Int) (h : yt w g B M q) : Calls Tryz.prog 103 #[.pointer (some ⟨g, 0, none⟩)] w fun e w' => e = .returned (.int .i64 (q.length : Int)) ∧ Below w.heap.size w w' := by
  refine (zab w g B M q h).mono ?_
  rintro e w1 ⟨rfl, nd, rfl⟩
  exact ⟨rfl, zq (Below.refl _ _) nd⟩
theorem Xn (w : World) (g B M : Nat) (q : List Int) (h : yt w g B M q) : Calls Tryz.prog 61 #[.pointer (some ⟨g, 0, none⟩)] w fun e w' => e = .returned (.int .i64 ((M : Int) - q.length)) ∧ Below w.heap.size w w' := by
  refine (ZQ w g B M q h).mono ?_
  rintro e w1 ⟨rfl, nd, rfl⟩
  exact ⟨rfl, zq (Below.refl _ _) nd⟩
theorem Vp (w : World) (g B M : Nat) (q : List Int) (h : yt w g B M q) (A0 : Option Addr) (n c0 : Nat) (l : List Int) (hn : n = l.length) (hr : Kd.C (Kd.int .u8) w A0 n l) (hc0 : n ≤ c0) (hne : 0 < n → ∀ a, A0 = some a → a.block ≠ B) (m : Nat) (hm : m = min n (M - q.length)) :
    Calls Tryz.prog 66 #[.pointer (some ⟨g, 0, none⟩), .slice A0 n c0] w fun e w' => e = .returned (.int .i64 (m : Int)) ∧ yt w' g B M (q ++ l.take m) ∧ Fr2 g B w w' := by
  subst hn
  exact QT w g B M q h A0 c0 l hr hc0 hne m hm
theorem zcZ {k : IntKind} {w : World} {A : Option Addr} {n : Nat} {l : List Int} (h : Kd.C (Kd.int k) w A n l) (h0 : 0 < n) : ∀ a, A = some a → a.block < w.heap.size := by
  intro a ha
  obtain ⟨ad, e, hx⟩ := Kd.qH h 0 (by omega) (by omega)
  rw [ha] at e
  injection e with e
  subst e
  have := World.block_lt_of_cell? _ _ hx
  have e1 : (a.add (0 : Int).toNat).block = a.block := by unfold Addr.add; split <;> rfl
  rwa [e1] at this
end Go.Proofs.YtlalbohhopmpdaaGreat.Ring
