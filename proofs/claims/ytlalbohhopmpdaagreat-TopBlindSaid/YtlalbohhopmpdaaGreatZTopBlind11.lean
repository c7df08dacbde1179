/- Words and walks for TopBlind (made of the session's own texts; each part by itself). -/
import Derived.Deep.DeepCutAuto
import Derived.Deep.DeepMust
import Derived.Deep.RegionLaw
import Derived.RegionTactic
import Derived.ChangeAlike
import Derived.Laws.CopyOwn
import Derived.Outline
import Derived.Lib.Hide
import Derived.WalkSpells
import Derived.Test.YtlalbohhopmpdaaGreatZTopBlind10
set_option maxRecDepth 100000
set_option maxHeartbeats 8000000
set_option linter.unusedVariables false
set_option linter.unusedSimpArgs false
namespace Go.Proofs.YtlalbohhopmpdaaGreat.Top
open Go.RowKit Go.Proofs.YtlalbohhopmpdaaGreat.PTop Go.YW.PrintWords Go.YW.PrintLast Go.YW.PrintMore Go.Proofs.YtlalbohhopmpdaaGreat.Num
attribute [local go_sem] zk zo
theorem YR (w : World) (a b c : Obj) : (((w.alloc a).alloc b).alloc c).heap[w.heap.size + 1 + 1]? = some c := by
  have h := zi ((w.alloc a).alloc b) c
  rw [show ((w.alloc a).alloc b).heap.size = w.heap.size + 1 + 1 by simp] at h
  exact h
theorem vJ (w : World) (a b : Obj) : ((w.alloc a).alloc b).heap[w.heap.size + 1]? = some b := by
  have h := zi (w.alloc a) b
  rw [show (w.alloc a).heap.size = w.heap.size + 1 by simp] at h
  exact h
theorem zdt (w : World) (a n : Int) :
    Calls Tryz.prog 168 #[jF a n] w fun e w' => e = .returned (jF a n) ∧ Below w.heap.size w w' := by
  have hu37 := Tryz.underlying37
  obtain ⟨W3, hW3⟩ : ∃ W3, W3 = ((w.alloc (.cells #[.int .i64 3, .int .i64 a, .int .i64 n, .int .u16 0, .int .u16 0, .int .u16 0, .slice none 0 0, .slice none 0 0, .int .i64 0, .int .i64 0, .int .i64 0, .int .i64 0] 37)).alloc (.cells yM 37)).alloc (.cells (jO 3) 37) := ⟨_, rfl⟩
  have B3 := hQ (show Below w.heap.size w W3 by rw [hW3]; exact (((Below.refl _ _).alloc (Nat.le_refl _) _).alloc (by simp) _).alloc (by simp; omega) _)
  have X3 := hQ (show W3.heap[w.heap.size]? = some (.cells #[.int .i64 3, .int .i64 a, .int .i64 n, .int .u16 0, .int .u16 0, .int .u16 0, .slice none 0 0, .slice none 0 0, .int .i64 0, .int .i64 0, .int .i64 0, .int .i64 0] 37 (0, 0)) by rw [hW3]; exact zg (zg (zi w _) _) _)
  have Y3 := hQ (show W3.heap[w.heap.size + 1]? = some (.cells yM 37 (0, 0)) by rw [hW3]; exact zg (vJ w _ _) _)
  have Z3 := hQ (show W3.heap[w.heap.size + 1 + 1]? = some (.cells (jO 3) 37 (0, 0)) by rw [hW3]; exact YR w _ _ _)
  obtain ⟨x0, x1, x2, x3, x4, x5, x6, x7, x8, x9, x10, x11⟩ := zV (zg (zi w (.cells #[.int .i64 3, .int .i64 a, .int .i64 n, .int .u16 0, .int .u16 0, .int .u16 0, .slice none 0 0, .slice none 0 0, .int .i64 0, .int .i64 0, .int .i64 0, .int .i64 0] 37)) (.cells yM 37))
  obtain ⟨y0, y1, y2, y3, y4, y5, y6, y7, y8, y9, y10, y11⟩ := zV (zg (zg (zi w (.cells #[.int .i64 3, .int .i64 a, .int .i64 n, .int .u16 0, .int .u16 0, .int .u16 0, .slice none 0 0, .slice none 0 0, .int .i64 0, .int .i64 0, .int .i64 0, .int .i64 0] 37)) (.cells yM 37)) (.cells (jO 3) 37))
  simp only [yM, jO] at hW3 Y3 Z3 x0 y0
  simp only [jF]
  go_enter Tryz.func168, Tryz.ntmps168
  go_wp2_with (fail)
  rw [← hW3]
  clear hW3 x0 x1 x2 x3 x4 x5 x6 x7 x8 x9 x10 x11 y0 y1 y2 y3 y4 y5 y6 y7 y8 y9 y10 y11
  obtain ⟨x0, x1, x2, x3, x4, x5, x6, x7, x8, x9, x10, x11⟩ := zV X3.out
  obtain ⟨y0, y1, y2, y3, y4, y5, y6, y7, y8, y9, y10, y11⟩ := zV Y3.out
  obtain ⟨z0, z1, z2, z3, z4, z5, z6, z7, z8, z9, z10, z11⟩ := zV Z3.out
  have fy : ∀ i, W3.frozen? ⟨w.heap.size + 1, i, none⟩ = false := fun i => zh Y3.out i
  have fz : ∀ i, W3.frozen? ⟨w.heap.size + 1 + 1, i, none⟩ = false := fun i => zh Z3.out i
  go_region
  go_wp2
  refine bodyPost_ret (v := .agg #[.int .i64 3, .int .i64 a, .int .i64 n, .int .u16 0, .int .u16 0, .int .u16 0, .slice none 0 0, .slice none 0 0, .int .i64 0, .int .i64 0, .int .i64 0, .int .i64 0]) ?_ rfl ⟨rfl, B3.out.trans ?_⟩
  · simp [results, Tryz.results168, go_sem, hu37, y0, y1, y2, y3, y4, y5, y6, y7, y8, y9, y10, y11]
  · refine Below.trans ?_ (zl (Below.refl _ _))
    (repeat (with_reducible first | exact Below.refl _ _ | (refine jG ?_ (by omega))))
theorem zdq (w : World) (a v : Int) :
    Calls Tryz.prog 168 #[qF a v] w fun e w' => e = .returned (qF a v) ∧ Below w.heap.size w w' := by
  have hu37 := Tryz.underlying37
  obtain ⟨W3, hW3⟩ : ∃ W3, W3 = ((w.alloc (.cells #[.int .i64 6, .int .i64 a, .int .i64 0, .int .u16 v, .int .u16 0, .int .u16 0, .slice none 0 0, .slice none 0 0, .int .i64 0, .int .i64 0, .int .i64 0, .int .i64 0] 37)).alloc (.cells yM 37)).alloc (.cells (jO 6) 37) := ⟨_, rfl⟩
  have B3 := hQ (show Below w.heap.size w W3 by rw [hW3]; exact (((Below.refl _ _).alloc (Nat.le_refl _) _).alloc (by simp) _).alloc (by simp; omega) _)
  have X3 := hQ (show W3.heap[w.heap.size]? = some (.cells #[.int .i64 6, .int .i64 a, .int .i64 0, .int .u16 v, .int .u16 0, .int .u16 0, .slice none 0 0, .slice none 0 0, .int .i64 0, .int .i64 0, .int .i64 0, .int .i64 0] 37 (0, 0)) by rw [hW3]; exact zg (zg (zi w _) _) _)
  have Y3 := hQ (show W3.heap[w.heap.size + 1]? = some (.cells yM 37 (0, 0)) by rw [hW3]; exact zg (vJ w _ _) _)
  have Z3 := hQ (show W3.heap[w.heap.size + 1 + 1]? = some (.cells (jO 6) 37 (0, 0)) by rw [hW3]; exact YR w _ _ _)
  obtain ⟨x0, x1, x2, x3, x4, x5, x6, x7, x8, x9, x10, x11⟩ := zV (zg (zi w (.cells #[.int .i64 6, .int .i64 a, .int .i64 0, .int .u16 v, .int .u16 0, .int .u16 0, .slice none 0 0, .slice none 0 0, .int .i64 0, .int .i64 0, .int .i64 0, .int .i64 0] 37)) (.cells yM 37))
  obtain ⟨y0, y1, y2, y3, y4, y5, y6, y7, y8, y9, y10, y11⟩ := zV (zg (zg (zi w (.cells #[.int .i64 6, .int .i64 a, .int .i64 0, .int .u16 v, .int .u16 0, .int .u16 0, .slice none 0 0, .slice none 0 0, .int .i64 0, .int .i64 0, .int .i64 0, .int .i64 0] 37)) (.cells yM 37)) (.cells (jO 6) 37))
  simp only [yM, jO] at hW3 Y3 Z3 x0 y0
  simp only [qF]
  go_enter Tryz.func168, Tryz.ntmps168
  go_wp2_with (fail)
  rw [← hW3]
  clear hW3 x0 x1 x2 x3 x4 x5 x6 x7 x8 x9 x10 x11 y0 y1 y2 y3 y4 y5 y6 y7 y8 y9 y10 y11
  obtain ⟨x0, x1, x2, x3, x4, x5, x6, x7, x8, x9, x10, x11⟩ := zV X3.out
  obtain ⟨y0, y1, y2, y3, y4, y5, y6, y7, y8, y9, y10, y11⟩ := zV Y3.out
  obtain ⟨z0, z1, z2, z3, z4, z5, z6, z7, z8, z9, z10, z11⟩ := zV Z3.out
  have fy : ∀ i, W3.frozen? ⟨w.heap.size + 1, i, none⟩ = false := fun i => zh Y3.out i
  have fz : ∀ i, W3.frozen? ⟨w.heap.size + 1 + 1, i, none⟩ = false := fun i => zh Z3.out i
  go_region
  go_wp2
  refine bodyPost_ret (v := .agg #[.int .i64 6, .int .i64 a, .int .i64 0, .int .u16 v, .int .u16 0, .int .u16 0, .slice none 0 0, .slice none 0 0, .int .i64 0, .int .i64 0, .int .i64 0, .int .i64 0]) ?_ rfl ⟨rfl, B3.out.trans ?_⟩
  · simp [results, Tryz.results168, go_sem, hu37, y0, y1, y2, y3, y4, y5, y6, y7, y8, y9, y10, y11]
  · refine Below.trans ?_ (zl (Below.refl _ _))
    (repeat (with_reducible first | exact Below.refl _ _ | (refine jG ?_ (by omega))))
end Go.Proofs.YtlalbohhopmpdaaGreat.Top
namespace Go.Proofs.YtlalbohhopmpdaaGreat.Top
open Go.RowKit Go.Proofs.YtlalbohhopmpdaaGreat.PTop Go.YW.PrintWords Go.YW.PrintLast Go.YW.PrintMore Go.Proofs.YtlalbohhopmpdaaGreat.Num
attribute [local go_sem] yN yO xu xw zk zo
theorem YK (w : World) (t a b : Int) (r : Bool) (h : 0 ≤ t ∧ t < 4 ∧ 0 ≤ a ∧ b ≤ 65536) (hr : decide (a < b) = r) : Calls Tryz.prog 113 #[.agg #[.int .i64 t, .int .i64 a, .int .i64 b]] w fun e w' => e = .returned (.bool r) ∧ Below w.heap.size w w' := by
  have hu78 := Tryz.underlying78
  obtain ⟨x0, x1, x2⟩ := zS (zi w (.cells #[.int .i64 t, .int .i64 a, .int .i64 b] 78 (0, 0)))
  have B1 := hQ (show Below w.heap.size w (w.alloc (.cells #[.int .i64 t, .int .i64 a, .int .i64 b] 78)) from (Below.refl _ _).alloc (Nat.le_refl _) _)
  have d1 : decide (t ≥ 0) = true := dT h.1
  have d2 : decide (t < 4) = true := dT h.2.1
  have d3 : decide (a ≥ 0) = true := dT h.2.2.1
  have d4 : decide (b ≤ 65536) = true := dT h.2.2.2
  clear h
  go_enter Tryz.func113, Tryz.ntmps113
  go_wp2
  exact bodyPost_ret (v := .bool r) (by simp [results, Tryz.results113, go_sem]) rfl ⟨rfl, B1.out⟩
theorem zbD (w : World) (a0 a1 a2 b0 b1 b2 : Int) (h : a0 < b0 ∨ (a0 = b0 ∧ a2 < b1)) : Calls Tryz.prog 125 #[.agg #[.int .i64 a0, .int .i64 a1, .int .i64 a2], .agg #[.int .i64 b0, .int .i64 b1, .int .i64 b2]] w fun e w' => e = .returned (.bool true) ∧ Below w.heap.size w w' := by
  have hu78 := Tryz.underlying78
  obtain ⟨x0, x1, x2⟩ := zS (zg (zi w (.cells #[.int .i64 a0, .int .i64 a1, .int .i64 a2] 78 (0, 0))) (.cells #[.int .i64 b0, .int .i64 b1, .int .i64 b2] 78))
  obtain ⟨y0, y1, y2⟩ := zS (vJ w (.cells #[.int .i64 a0, .int .i64 a1, .int .i64 a2] 78) (.cells #[.int .i64 b0, .int .i64 b1, .int .i64 b2] 78 (0, 0)))
  have B1 := hQ (show Below w.heap.size w ((w.alloc (.cells #[.int .i64 a0, .int .i64 a1, .int .i64 a2] 78)).alloc (.cells #[.int .i64 b0, .int .i64 b1, .int .i64 b2] 78)) from ((Below.refl _ _).alloc (Nat.le_refl _) _).alloc (by simp) _)
  by_cases h1 : a0 < b0
  · have d1 : decide (a0 < b0) = true := dT h1
    clear h h1
    go_enter Tryz.func125, Tryz.ntmps125
    go_wp2
    exact bodyPost_ret (v := .bool true) (by simp [results, Tryz.results125, go_sem]) rfl ⟨rfl, B1.out⟩
  · have d1 : decide (a0 < b0) = false := dF h1
    obtain ⟨rfl, h2⟩ := h.resolve_left h1
    have d2 : decide (a2 < b1) = true := dT h2
    clear h h1 h2
    go_enter Tryz.func125, Tryz.ntmps125
    go_wp2
    exact bodyPost_ret (v := .bool true) (by simp [results, Tryz.results125, go_sem]) rfl ⟨rfl, B1.out⟩
def Yk (x : S78) : Prop := (0 ≤ x.f0 ∧ x.f0 < 4 ∧ 0 ≤ x.f1 ∧ x.f2 ≤ 65536) ∧ x.f1 < x.f2
def Qe (x y : S78) : Prop := x.f0 < y.f0 ∨ (x.f0 = y.f0 ∧ x.f2 < y.f1)
instance (x : S78) : Decidable (Yk x) := by unfold Yk; infer_instance
instance (x y : S78) : Decidable (Qe x y) := by unfold Qe; infer_instance
def xI (a b : S78) : S78 := if a.f0 = b.f0 then ⟨a.f0, if a.f1 < b.f1 then b.f1 else a.f1, if b.f2 < a.f2 then b.f2 else a.f2⟩ else ⟨0, 0, 0⟩
theorem KZ (w : World) (a b : S78) : Calls Tryz.prog 126 #[.agg #[.int .i64 a.f0, .int .i64 a.f1, .int .i64 a.f2], .agg #[.int .i64 b.f0, .int .i64 b.f1, .int .i64 b.f2]] w fun e w' => e = .returned (.agg #[.int .i64 (xI a b).f0, .int .i64 (xI a b).f1, .int .i64 (xI a b).f2]) ∧ Below w.heap.size w w' := by
  have hu78 := Tryz.underlying78
  obtain ⟨W3, hW3⟩ : ∃ W3, W3 = ((w.alloc (.cells #[.int .i64 a.f0, .int .i64 a.f1, .int .i64 a.f2] 78)).alloc (.cells #[.int .i64 b.f0, .int .i64 b.f1, .int .i64 b.f2] 78)).alloc (.cells #[.int .i64 0, .int .i64 0, .int .i64 0] 78) := ⟨_, rfl⟩
  have B3 := hQ (show Below w.heap.size w W3 by rw [hW3]; exact (((Below.refl _ _).alloc (Nat.le_refl _) _).alloc (by simp) _).alloc (by simp; omega) _)
  have X3 := hQ (show W3.heap[w.heap.size]? = some (.cells #[.int .i64 a.f0, .int .i64 a.f1, .int .i64 a.f2] 78 (0, 0)) by rw [hW3]; exact zg (zg (zi w _) _) _)
  have Y3 := hQ (show W3.heap[w.heap.size + 1]? = some (.cells #[.int .i64 b.f0, .int .i64 b.f1, .int .i64 b.f2] 78 (0, 0)) by rw [hW3]; exact zg (vJ w _ _) _)
  have Z3 := hQ (show W3.heap[w.heap.size + 1 + 1]? = some (.cells #[.int .i64 0, .int .i64 0, .int .i64 0] 78 (0, 0)) by rw [hW3]; exact YR w _ _ _)
  rw [hW3] at B3 X3 Y3 Z3
  obtain ⟨x0, x1, x2⟩ := zS X3.out
  obtain ⟨y0, y1, y2⟩ := zS Y3.out
  obtain ⟨z0, z1, z2⟩ := zS Z3.out
  have fz := fun i => zh Z3.out i
  clear hW3
  by_cases h : a.f0 = b.f0
  · have HF := hQ (show xI a b = ⟨a.f0, if a.f1 < b.f1 then b.f1 else a.f1, if b.f2 < a.f2 then b.f2 else a.f2⟩ from if_pos h)
    rw [HF.out]
    have d1 : (a.f0 = b.f0) = True := eq_true h
    have d3 : (a.f0 != b.f0) = false := by simpa using h
    obtain ⟨mx, hmx⟩ : ∃ m, (if a.f1 < b.f1 then b.f1 else a.f1) = m := ⟨_, rfl⟩
    obtain ⟨mn, hmn⟩ : ∃ m, (if b.f2 < a.f2 then b.f2 else a.f2) = m := ⟨_, rfl⟩
    simp only [hmx, hmn]
    clear h
    go_enter Tryz.func126, Tryz.ntmps126
    go_wp2
    refine bodyPost_ret (v := .agg #[.int .i64 a.f0, .int .i64 mx, .int .i64 mn]) ?_ rfl ⟨rfl, (((Below.refl _ _).alloc (Nat.le_refl _) _).alloc (by simp) _).alloc (by simp; omega) _⟩
    simp [results, Tryz.results126, go_sem, hu78, z0, z1, z2]
  · have HF := hQ (show xI a b = ⟨0, 0, 0⟩ from if_neg h)
    rw [HF.out]
    have d1 : (a.f0 = b.f0) = False := eq_false h
    have d2 : (a.f0 == b.f0) = false := by simpa using h
    have d3 : (a.f0 != b.f0) = true := by simpa using h
    have d4 : decide (a.f0 = b.f0) = false := dF h
    clear h
    go_enter Tryz.func126, Tryz.ntmps126
    go_wp2
    refine bodyPost_ret (v := .agg #[.int .i64 0, .int .i64 0, .int .i64 0]) ?_ rfl ⟨rfl, (((Below.refl _ _).alloc (Nat.le_refl _) _).alloc (by simp) _).alloc (by simp; omega) _⟩
    simp [results, Tryz.results126, go_sem, hu78, z0, z1, z2]
theorem zaI (w : World) (t a b : Int) (hw : wrap64 (a + b) = a + b) : Calls Tryz.prog 96 #[.agg #[.int .i64 t, .int .i64 a, .int .i64 b]] w fun e w' => e = .returned (.agg #[.int .i64 t, .int .i64 a, .int .i64 (a + b)]) ∧ Below w.heap.size w w' := by
  have hu81 := Tryz.underlying81
  have hu78 := Tryz.underlying78
  have B1 := hQ (show Below w.heap.size w ((w.alloc (.cells #[.int .i64 t, .int .i64 a, .int .i64 b] 81)).alloc (.cells #[.int .i64 t, .int .i64 a, .int .i64 (a + b)] 78)) from ((Below.refl _ _).alloc (Nat.le_refl _) _).alloc (by simp) _)
  obtain ⟨x0, x1, x2⟩ := zS (zg (zi w (.cells #[.int .i64 t, .int .i64 a, .int .i64 b] 81 (0, 0))) (.cells #[.int .i64 0, .int .i64 0, .int .i64 0] 78))
  obtain ⟨y0, y1, y2⟩ := zS (vJ w (.cells #[.int .i64 t, .int .i64 a, .int .i64 b] 81) (.cells #[.int .i64 t, .int .i64 a, .int .i64 (a + b)] 78 (0, 0)))
  go_enter Tryz.func96, Tryz.ntmps96
  go_wp2
  refine bodyPost_ret (v := .agg #[.int .i64 t, .int .i64 a, .int .i64 (a + b)]) ?_ rfl ⟨rfl, B1.out⟩
  simp [results, Tryz.results96, go_sem, hu78, y0, y1, y2]
theorem XD (w : World) : Calls Tryz.prog 92 #[.int .i64 100] w fun e w' => e = .returned (.agg #[.int .i64 2, .int .i64 100, .int .i64 108]) ∧ Below w.heap.size w w' := by
  have hu78 := Tryz.underlying78
  have B1 := hQ (show Below w.heap.size w (w.alloc (.cells #[.int .i64 2, .int .i64 100, .int .i64 108] 78)) from (Below.refl _ _).alloc (Nat.le_refl _) _)
  obtain ⟨y0, y1, y2⟩ := zS (zi w (.cells #[.int .i64 2, .int .i64 100, .int .i64 108] 78 (0, 0)))
  go_enter Tryz.func92, Tryz.ntmps92
  go_wp2
  refine bodyPost_ret (v := .agg #[.int .i64 2, .int .i64 100, .int .i64 108]) ?_ rfl ⟨rfl, B1.out⟩
  simp [results, Tryz.results92, go_sem, hu78, y0, y1, y2]
theorem jw (w : World) (n a b : Int) (h : a ≤ n ∧ n ≤ b) : Calls Tryz.prog 48 #[.int .i64 n, .int .i64 a, .int .i64 b] w fun e w' => e = .returned (.bool true) ∧ zw w w' := by
  have d1 : decide (n ≥ a) = true := dT h.1
  have d2 : decide (n ≤ b) = true := dT h.2
  clear h
  go_enter Tryz.func48, Tryz.ntmps48
  go_wp2
  exact bodyPost_ret (v := .bool true) (by simp [results, Tryz.results48, go_sem]) rfl ⟨rfl, ⟨0, rfl⟩⟩
end Go.Proofs.YtlalbohhopmpdaaGreat.Top
namespace Go.Proofs.YtlalbohhopmpdaaGreat.Top
open Go.RowKit Go.Proofs.YtlalbohhopmpdaaGreat.PTop Go.YW.PrintWords Go.YW.PrintLast Go.YW.PrintMore Go.Proofs.YtlalbohhopmpdaaGreat.Num
attribute [local go_sem] zk zo
def QQ (l : List S78) (s : S78) (j : Int) : Prop := ∀ i : Int, 0 ≤ i → i < j → xI (zJ l i) s ≠ s
theorem ne3 {x s : S78} (h : x ≠ s) : (x.f0 = s.f0) = False ∨ ((x.f0 = s.f0) = True ∧ (x.f1 = s.f1) = False) ∨ ((x.f0 = s.f0) = True ∧ (x.f1 = s.f1) = True ∧ (x.f2 = s.f2) = False) := by
  by_cases h0 : x.f0 = s.f0
  · by_cases h1 : x.f1 = s.f1
    · refine .inr (.inr ⟨eq_true h0, eq_true h1, eq_false (fun h2 => h ?_)⟩)
      cases x
      cases s
      simp_all
    · exact .inr (.inl ⟨eq_true h0, eq_false h1⟩)
  · exact .inl (eq_false h0)
theorem ZH (w : World) (A : Option Addr) (c : Nat) (l : List S78) (s : S78) (r : Bool) (hC : Kd.C k78 w A l.length l) (hl : l.length ≤ 1000)
    (hr : if r then ∃ j : Int, 0 ≤ j ∧ j < l.length ∧ xI (zJ l j) s = s else QQ l s l.length) :
    Calls Tryz.prog 95 #[.slice A l.length c, .agg #[.int .i64 s.f0, .int .i64 s.f1, .int .i64 s.f2]] w fun e w' => e = .returned (.bool r) ∧ Below w.heap.size w w' := by
  have hu78 := Tryz.underlying78
  have hu25 := Tryz.underlying25
  have B0 := hQ (show Below w.heap.size w (w.alloc (.cells #[.int .i64 s.f0, .int .i64 s.f1, .int .i64 s.f2] 78)) from (Below.refl _ _).alloc (Nat.le_refl _) _)
  have S0 := hQ (zi w (.cells #[.int .i64 s.f0, .int .i64 s.f1, .int .i64 s.f2] 78 (0, 0)))
  have HC := hQ hC
  have HL := hQ hl
  have HR := hQ hr
  clear hC hl hr
  go_enter Tryz.func95, Tryz.ntmps95
  go_wp2_with (fail)
  go_loopg [9] l.length (fun g_ v9 wx => ∃ j : Int, 0 ≤ j ∧ (g_ : Int) = l.length - j ∧ v9 = .int .i64 j ∧ ze (QQ l s j) ∧ ze (Below w.heap.size w wx) ∧ ze (wx.heap[w.heap.size]? = some (.cells #[.int .i64 s.f0, .int .i64 s.f1, .int .i64 s.f2] 78 (0, 0))))
  case atStart => exact ⟨0, by omega, by omega, rfl, ⟨fun i h0 h1 => by omega⟩, ⟨B0.out⟩, ⟨S0.out⟩⟩
  case round =>
    obtain ⟨j, hj0, hg, rfl, HN, HB, HS⟩ := hrel
    by_cases he : j < (l.length : Int)
    · have hd : decide (j < (l.length : Int)) = true := dT he
      have HE := hQ (show 0 ≤ j ∧ j < (l.length : Int) ∧ (gk : Int) = l.length - j from ⟨hj0, he, hg⟩)
      obtain ⟨ad, e, hx0, hx1, hx2⟩ := Yg (Kd.zx HC.out HB.out) j hj0 he
      cases e
      have p0 : (0 ≤ j) = True := eq_true hj0
      have q0 : (j < (l.length : Int)) = True := eq_true he
      have hw1 : wrap64 (j + 1) = j + 1 := zu (by have := HL.out; omega) (by have := HL.out; omega)
      have hb1 : Below wr.heap.size wr ((wr.alloc (.cells #[.int .i64 (zJ l j).f0, .int .i64 (zJ l j).f1, .int .i64 (zJ l j).f2] 78)).drew) := zl ((Below.refl _ _).alloc (Nat.le_refl _) _)
      have B1 := hQ (zf HB.out HB.out.size hb1)
      have S1 := hQ (zb HS.out hb1)
      have X1 := hQ (zb (zi wr (.cells #[.int .i64 (zJ l j).f0, .int .i64 (zJ l j).f1, .int .i64 (zJ l j).f2] 78 (0, 0))) (zl (Below.refl _ _)))
      clear hb1 hj0 hg he
      go_wp2_with (fail)
      obtain ⟨s0, s1, s2⟩ := zS S1.out
      obtain ⟨x0, x1, x2⟩ := zS X1.out
      by_cases hq : xI (zJ l j) s = s
      · have hrt : r = true := by
          cases r with
          | true => rfl
          | false => exact absurd hq ((show QQ l s l.length from HR.out) j HE.out.1 HE.out.2.1)
        subst hrt
        have HQ := hQ hq
        clear hq
        go_region_law (first | (go_simp; go_at_call 126; refine (KZ _ (zJ l j) s).mono ?_; rintro e w4 ⟨rfl, hb⟩; rw [HQ.out]; have B4 := hQ (zf B1.out B1.out.size hb); have S4 := hQ (zb S1.out hb); clear hb s0 s1 s2 x0 x1 x2; obtain ⟨s0, s1, s2⟩ := zS S4.out))
        all_goals
          go_wp2
          exact bodyPost_ret (v := .bool true) (by simp [results, Tryz.results95, go_sem]) rfl ⟨rfl, B4.out⟩
      · have HQ := hQ hq
        rcases ne3 hq with h0 | ⟨h0, h1⟩ | ⟨h0, h1, h2⟩
        all_goals
          clear hq
          go_region_law (first | (go_simp; go_at_call 126; refine (KZ _ (zJ l j) s).mono ?_; rintro e w4 ⟨rfl, hb⟩; have B4 := hQ (zf B1.out B1.out.size hb); have S4 := hQ (zb S1.out hb); clear hb s0 s1 s2 x0 x1 x2; obtain ⟨s0, s1, s2⟩ := zS S4.out))
          all_goals
            go_wp2
            go_roundg (l.length - (j + 1)).toNat
            case measure => have := HE.out; omega
            case rel =>
              have := HE.out
              refine ⟨j + 1, by omega, by omega, by first | rfl | rw [hw1], ⟨fun i h3 h4 => ?_⟩, ⟨B4.out⟩, ⟨S4.out⟩⟩
              by_cases e : i = j
              · rw [e]; exact HQ.out
              · exact HN.out i h3 (by omega)
    · have hd : decide (j < (l.length : Int)) = false := dF he
      have hrf : r = false := by
        cases r with
        | false => rfl
        | true =>
          obtain ⟨i, h0, h1, h2⟩ := (show ∃ j : Int, 0 ≤ j ∧ j < l.length ∧ xI (zJ l j) s = s from HR.out)
          exact absurd h2 (HN.out i h0 (by omega))
      subst hrf
      clear he hj0 hg
      go_wp2
      exact bodyPost_ret (v := .bool false) (by simp [results, Tryz.results95, go_sem]) rfl ⟨rfl, HB.out⟩
def jb (x : S78) : Prop := (0 ≤ x.f0 ∧ x.f0 < 4 ∧ 0 ≤ x.f1 ∧ x.f2 ≤ 65536) ∧ ¬ x.f1 < x.f2
instance (x : S78) : Decidable (jb x) := by unfold jb; infer_instance
theorem VQ (w : World) (A : Option Addr) (c : Nat) (l : List S78) (s : S78) (hC : Kd.C k78 w A l.length l) (hl : l.length ≤ 1000) (hr : ∀ j : Int, 0 ≤ j → j < l.length → jb (xI (zJ l j) s)) :
    Calls Tryz.prog 91 #[.slice A l.length c, .agg #[.int .i64 s.f0, .int .i64 s.f1, .int .i64 s.f2]] w fun e w' => e = .returned (.bool false) ∧ Below w.heap.size w w' := by
  have hu78 := Tryz.underlying78
  have hu25 := Tryz.underlying25
  have B0 := hQ (show Below w.heap.size w (w.alloc (.cells #[.int .i64 s.f0, .int .i64 s.f1, .int .i64 s.f2] 78)) from (Below.refl _ _).alloc (Nat.le_refl _) _)
  have S0 := hQ (zi w (.cells #[.int .i64 s.f0, .int .i64 s.f1, .int .i64 s.f2] 78 (0, 0)))
  have HC := hQ hC
  have HL := hQ hl
  have HR := hQ hr
  clear hC hl hr
  go_enter Tryz.func91, Tryz.ntmps91
  go_wp2_with (fail)
  go_loopg [9] l.length (fun g_ v9 wx => ∃ j : Int, 0 ≤ j ∧ (g_ : Int) = l.length - j ∧ v9 = .int .i64 j ∧ ze (Below w.heap.size w wx) ∧ ze (wx.heap[w.heap.size]? = some (.cells #[.int .i64 s.f0, .int .i64 s.f1, .int .i64 s.f2] 78 (0, 0))))
  case atStart => exact ⟨0, by omega, by omega, rfl, ⟨B0.out⟩, ⟨S0.out⟩⟩
  case round =>
    obtain ⟨j, hj0, hg, rfl, HB, HS⟩ := hrel
    by_cases he : j < (l.length : Int)
    · have hd : decide (j < (l.length : Int)) = true := dT he
      have HE := hQ (show 0 ≤ j ∧ j < (l.length : Int) ∧ (gk : Int) = l.length - j from ⟨hj0, he, hg⟩)
      obtain ⟨ad, e, hx0, hx1, hx2⟩ := Yg (Kd.zx HC.out HB.out) j hj0 he
      cases e
      have p0 : (0 ≤ j) = True := eq_true hj0
      have q0 : (j < (l.length : Int)) = True := eq_true he
      have hw1 : wrap64 (j + 1) = j + 1 := zu (by have := HL.out; omega) (by have := HL.out; omega)
      have hb1 : Below wr.heap.size wr (wr.alloc (.cells #[.int .i64 (zJ l j).f0, .int .i64 (zJ l j).f1, .int .i64 (zJ l j).f2] 78)) := (Below.refl _ _).alloc (Nat.le_refl _) _
      have B1 := hQ (zf HB.out HB.out.size hb1)
      have S1 := hQ (zb HS.out hb1)
      obtain ⟨s0, s1, s2⟩ := zS S1.out
      obtain ⟨x0, x1, x2⟩ := zS (zi wr (.cells #[.int .i64 (zJ l j).f0, .int .i64 (zJ l j).f1, .int .i64 (zJ l j).f2] 78 (0, 0)))
      have HH := hQ (HR.out j hj0 he)
      clear hb1 hj0 hg he
      go_wp2_with (fail)
      refine (KZ _ (zJ l j) s).mono ?_
      rintro e w4 ⟨rfl, hb⟩
      have B4 := hQ (zf B1.out B1.out.size hb)
      have S4 := hQ (zb S1.out hb)
      clear hb s0 s1 s2 x0 x1 x2
      go_wp2_with (fail)
      refine (YK _ (xI (zJ l j) s).f0 (xI (zJ l j) s).f1 (xI (zJ l j) s).f2 false HH.out.1 (dF HH.out.2)).mono ?_
      rintro e w5 ⟨rfl, hb⟩
      have B5 := hQ (zf B4.out B4.out.size hb)
      have S5 := hQ (zb S4.out hb)
      clear hb
      go_wp2
      go_roundg (l.length - (j + 1)).toNat
      case measure => have := HE.out; omega
      case rel => have := HE.out; exact ⟨j + 1, by omega, by omega, by first | rfl | rw [hw1], ⟨B5.out⟩, ⟨S5.out⟩⟩
    · have hd : decide (j < (l.length : Int)) = false := dF he
      clear he hj0 hg
      go_wp2
      exact bodyPost_ret (v := .bool false) (by simp [results, Tryz.results91, go_sem]) rfl ⟨rfl, HB.out⟩
open Go.RowKit Go.Proofs.YtlalbohhopmpdaaGreat.PTop Go.YW.PrintWords Go.YW.PrintLast Go.YW.PrintMore Go.Proofs.YtlalbohhopmpdaaGreat.Num Go.Proofs.YtlalbohhopmpdaaGreat.Tiny
def C3 (a : Addr) (x y z : Value) (w : World) : Prop := w.cell? a = some x ∧ w.cell? ⟨a.block, a.off + 1, none⟩ = some y ∧ w.cell? ⟨a.block, a.off + 2, none⟩ = some z
theorem C3.below {a : Addr} {x y z : Value} {w w1 : World} (h : C3 a x y z w) (hb : Below w.heap.size w w1) : C3 a x y z w1 := ⟨cell_below h.1 hb, cell_below h.2.1 hb, cell_below h.2.2 hb⟩
theorem zbC (w : World) (A : Option Addr) (c : Nat) (l : List S78) (hC : Kd.C k78 w A l.length l) (hl : l.length ≤ 1000) (hr : ∀ i : Int, 0 ≤ i → i < l.length → Yk (zJ l i)) (ha : ∀ i : Int, 0 < i → i < l.length → Qe (zJ l (i - 1)) (zJ l i)) :
    Calls Tryz.prog 90 #[.slice A l.length c] w fun e w' => e = .returned (.bool true) ∧ Below w.heap.size w w' := by
  have hu78 := Tryz.underlying78
  have hu25 := Tryz.underlying25
  have HC := hQ hC
  have HL := hQ hl
  have HR := hQ hr
  have HA := hQ ha
  clear hC hl hr ha
  go_enter Tryz.func90, Tryz.ntmps90
  go_wp2_with (fail)
  go_loopg [7] l.length (fun g_ v7 wx => ∃ j : Int, 0 ≤ j ∧ (g_ : Int) = l.length - j ∧ v7 = .int .i64 j ∧ ze (Below w.heap.size w wx))
  case atStart => exact ⟨0, by omega, by omega, rfl, ⟨Below.refl _ _⟩⟩
  case round =>
    obtain ⟨j, hj0, hg, rfl, HB⟩ := hrel
    by_cases he : j < (l.length : Int)
    · have hd : decide (j < (l.length : Int)) = true := dT he
      have HE := hQ (show 0 ≤ j ∧ j < (l.length : Int) ∧ (gk : Int) = l.length - j from ⟨hj0, he, hg⟩)
      obtain ⟨ad, e, hx0, hx1, hx2⟩ := Yg (Kd.zx HC.out HB.out) j hj0 he
      cases e
      have p0 : (0 ≤ j) = True := eq_true hj0
      have q0 : (j < (l.length : Int)) = True := eq_true he
      have hw : wrap64 (j - 1) = j - 1 := zu (by have := HL.out; omega) (by have := HL.out; omega)
      have hw1 : wrap64 (j + 1) = j + 1 := zu (by have := HL.out; omega) (by have := HL.out; omega)
      have hb1 : Below wr.heap.size wr ((wr.alloc (.cells #[.int .i64 (zJ l j).f0, .int .i64 (zJ l j).f1, .int .i64 (zJ l j).f2] 78)).drew) := zl ((Below.refl _ _).alloc (Nat.le_refl _) _)
      have B1 := hQ (zf HB.out HB.out.size hb1)
      have hx : C3 ⟨wr.heap.size, 0, none⟩ (.int .i64 (zJ l j).f0) (.int .i64 (zJ l j).f1) (.int .i64 (zJ l j).f2) ((wr.alloc (.cells #[.int .i64 (zJ l j).f0, .int .i64 (zJ l j).f1, .int .i64 (zJ l j).f2] 78)).drew) := by
        have h := zb (zi wr (.cells #[.int .i64 (zJ l j).f0, .int .i64 (zJ l j).f1, .int .i64 (zJ l j).f2] 78 (0, 0))) (zl (Below.refl _ _))
        exact ⟨za h 0, za h 1, za h 2⟩
      have X1 := hQ hx
      clear hx hb1
      have R1 := hQ (HR.out j hj0 he)
      by_cases hz : 0 < j
      · have hd2 : decide (j > 0) = true := dT hz
        have A1 := hQ (HA.out j hz he)
        have pz : (1 ≤ j) = True := eq_true (by omega)
        have qz : (j - 1 < (l.length : Int)) = True := eq_true (by omega)
        obtain ⟨ad2, e, hy0, hy1, hy2⟩ := Yg (Kd.zx HC.out HB.out) (j - 1) (by omega) (by omega)
        cases e
        rw [show (j - 1).toNat = j.toNat - 1 by omega] at hy0 hy1 hy2
        have Y1 := hQ (C3.below (show C3 (ad.add ((j.toNat - 1) * 3)) (.int .i64 (zJ l (j - 1)).f0) (.int .i64 (zJ l (j - 1)).f1) (.int .i64 (zJ l (j - 1)).f2) wr from ⟨hy0, hy1, hy2⟩) (zl ((Below.refl wr.heap.size wr).alloc (Nat.le_refl _) (.cells #[.int .i64 (zJ l j).f0, .int .i64 (zJ l j).f1, .int .i64 (zJ l j).f2] 78))))
        clear hy0 hy1 hy2 he hz hj0 hg
        go_wp2_with (fail)
        refine sq_ (ds := []) #[false, false, false, false, false, false, false, false, false, false, false, false, false, false, false, false, false] (fun w' => w'.cell? ⟨wr.heap.size, 0, none⟩ = some (.int .i64 (zJ l j).f0) ∧ w'.cell? ⟨wr.heap.size, 1, none⟩ = some (.int .i64 (zJ l j).f1) ∧ w'.cell? ⟨wr.heap.size, 2, none⟩ = some (.int .i64 (zJ l j).f2) ∧ w'.cell? (ad.add ((j.toNat - 1) * 3)) = some (.int .i64 (zJ l (j - 1)).f0) ∧ w'.cell? ⟨(ad.add ((j.toNat - 1) * 3)).block, (ad.add ((j.toNat - 1) * 3)).off + 1, none⟩ = some (.int .i64 (zJ l (j - 1)).f1) ∧ w'.cell? ⟨(ad.add ((j.toNat - 1) * 3)).block, (ad.add ((j.toNat - 1) * 3)).off + 2, none⟩ = some (.int .i64 (zJ l (j - 1)).f2)) ⟨X1.out.1, X1.out.2.1, X1.out.2.2, Y1.out.1, Y1.out.2.1, Y1.out.2.2⟩ (fun hHeld => ?_)
        refine tq_ 0 (some 12) hHeld ?_
        refine oq_ 1 (some 13) (fun K hK => ?_)
        refine yh Tryz.func113 (by kernel_rfl) rfl #[.agg #[.int .i64 (zJ l j).f0, .int .i64 (zJ l j).f1, .int .i64 (zJ l j).f2]] (by rfl) rfl rfl (by (try simp only [List.map_toArray, List.map_cons, List.map_nil]); first | done | rfl) ?_
        refine (YK _ (zJ l j).f0 (zJ l j).f1 (zJ l j).f2 true R1.out.1 (dT R1.out.2)).mono ?_
        rintro e w2 ⟨rfl, hd_⟩
        refine ⟨_, rfl, ?_⟩
        have B2 := hQ (zf B1.out B1.out.size hd_)
        have X2 := hQ (C3.below X1.out hd_)
        have Y2 := hQ (C3.below Y1.out hd_)
        clear hd_
        refine hK.out _ _ ⟨X2.out.1, X2.out.2.1, X2.out.2.2, Y2.out.1, Y2.out.2.1, Y2.out.2.2⟩ (fun hHeld => ?_)
        clear hK K
        refine nq_ ?_
        refine pq_ 2 (some 14) ?_
        refine pq_ 3 (some 15) ?_
        refine pq_ 4 (some 16) ?_
        refine pq_ 5 (some 17) ?_
        refine pq_ 6 (some 18) ?_
        refine pq_ 7 (some 19) ?_
        refine pq_ 8 (some 20) ?_
        refine pq_ 9 (some 21) ?_
        refine pq_ 10 (some 22) ?_
        refine tq_ 11 (some 23) hHeld ?_
        refine tq_ 12 (some 24) hHeld ?_
        refine oq_ 13 (some 25) (fun K hK => ?_)
        refine yh Tryz.func125 (by kernel_rfl) rfl #[.agg #[.int .i64 (zJ l (j - 1)).f0, .int .i64 (zJ l (j - 1)).f1, .int .i64 (zJ l (j - 1)).f2], .agg #[.int .i64 (zJ l j).f0, .int .i64 (zJ l j).f1, .int .i64 (zJ l j).f2]] (by rfl) rfl rfl (by (try simp only [List.map_toArray, List.map_cons, List.map_nil]); first | done | rfl) ?_
        refine (zbD _ (zJ l (j - 1)).f0 (zJ l (j - 1)).f1 (zJ l (j - 1)).f2 (zJ l j).f0 (zJ l j).f1 (zJ l j).f2 A1.out).mono ?_
        rintro e w3 ⟨rfl, hd_⟩
        refine ⟨_, rfl, ?_⟩
        have B3 := hQ (zf B2.out B2.out.size hd_)
        have X3 := hQ (C3.below X2.out hd_)
        have Y3 := hQ (C3.below Y2.out hd_)
        clear hd_
        refine hK.out _ _ ⟨X3.out.1, X3.out.2.1, X3.out.2.2, Y3.out.1, Y3.out.2.1, Y3.out.2.2⟩ (fun hHeld => ?_)
        clear hK K
        refine nq_ ?_
        refine pq_ 14 (some 26) ?_
        refine pq_ 15 (some 27) ?_
        refine pq_ 16 (some 28) ?_
        refine xJ (by kernel_rfl) ?_
        go_wp2
        go_roundg (l.length - (j + 1)).toNat
        case measure => have := HE.out; omega
        case rel => have := HE.out; exact ⟨j + 1, by omega, by omega, by first | rfl | rw [hw1], ⟨B3.out⟩⟩
      · have hd2 : decide (j > 0) = false := dF hz
        clear he hz hj0 hg
        go_wp2_with (fail)
        refine sq_ (ds := []) #[false, false, false, false, false, false, false, false, false, false, false, false, false, false, false, false, false] (fun w' => w'.cell? ⟨wr.heap.size, 0, none⟩ = some (.int .i64 (zJ l j).f0) ∧ w'.cell? ⟨wr.heap.size, 1, none⟩ = some (.int .i64 (zJ l j).f1) ∧ w'.cell? ⟨wr.heap.size, 2, none⟩ = some (.int .i64 (zJ l j).f2)) ⟨X1.out.1, X1.out.2.1, X1.out.2.2⟩ (fun hHeld => ?_)
        refine tq_ 0 (some 12) hHeld ?_
        refine oq_ 1 (some 13) (fun K hK => ?_)
        refine yh Tryz.func113 (by kernel_rfl) rfl #[.agg #[.int .i64 (zJ l j).f0, .int .i64 (zJ l j).f1, .int .i64 (zJ l j).f2]] (by rfl) rfl rfl (by (try simp only [List.map_toArray, List.map_cons, List.map_nil]); first | done | rfl) ?_
        refine (YK _ (zJ l j).f0 (zJ l j).f1 (zJ l j).f2 true R1.out.1 (dT R1.out.2)).mono ?_
        rintro e w2 ⟨rfl, hd_⟩
        refine ⟨_, rfl, ?_⟩
        have B2 := hQ (zf B1.out B1.out.size hd_)
        have X2 := hQ (C3.below X1.out hd_)
        clear hd_
        refine hK.out _ _ ⟨X2.out.1, X2.out.2.1, X2.out.2.2⟩ (fun hHeld => ?_)
        clear hK K
        refine nq_ ?_
        refine pq_ 2 (some 14) ?_
        refine pq_ 3 (some 15) ?_
        refine pq_ 4 (some 16) ?_
        refine pq_ 5 (some 17) ?_
        refine pq_ 6 (some 18) ?_
        refine uq_ 7 (some 19) ?_
        refine uq_ 8 (some 20) ?_
        refine uq_ 9 (some 21) ?_
        refine uq_ 10 (some 22) ?_
        refine uq_ 11 (some 23) ?_
        refine uq_ 12 (some 24) ?_
        refine uq_ 13 (some 25) ?_
        refine uq_ 14 (some 26) ?_
        refine pq_ 15 (some 27) ?_
        refine pq_ 16 (some 28) ?_
        refine xJ (by kernel_rfl) ?_
        go_wp2
        go_roundg (l.length - (j + 1)).toNat
        case measure => have := HE.out; omega
        case rel => have := HE.out; exact ⟨j + 1, by omega, by omega, by first | rfl | rw [hw1], ⟨B2.out⟩⟩
    · have hd : decide (j < (l.length : Int)) = false := dF he
      clear he hj0 hg
      go_wp2
      exact bodyPost_ret (v := .bool true) (by simp [results, Tryz.results90, go_sem]) rfl ⟨rfl, HB.out⟩
theorem zdx {P : Int → Prop} (h0 : P 0) (h1 : P 1) (h2 : P 2) (h3 : P 3) (h4 : P 4) (i : Int) (hi : 0 ≤ i) (hl : i < 5) : P i := by
  obtain rfl | rfl | rfl | rfl | rfl : i = 0 ∨ i = 1 ∨ i = 2 ∨ i = 3 ∨ i = 4 := by omega
  all_goals assumption
theorem zcm (w : World) (A : Option Addr) (c : Nat) (hC : Kd.C k78 w A 5 yA) : Calls Tryz.prog 90 #[.slice A 5 c] w fun e w' => e = .returned (.bool true) ∧ Below w.heap.size w w' :=
  zbC w A c yA hC (by decide) (zdx (P := fun i => Yk (zJ yA i)) (by decide +kernel) (by decide +kernel) (by decide +kernel) (by decide +kernel) (by decide +kernel))
    (fun i hi hl => zdx (P := fun i => 0 < i → Qe (zJ yA (i - 1)) (zJ yA i)) (fun h => absurd h (by decide)) (fun _ => by decide +kernel) (fun _ => by decide +kernel) (fun _ => by decide +kernel) (fun _ => by decide +kernel) i (by omega) hl hi)
theorem WY (i : Int) (h0 : 0 ≤ i) (h1 : i < yA.length) : jb (xI (zJ yA i) ⟨2, 100, 108⟩) :=
  zdx (P := fun i => jb (xI (zJ yA i) ⟨2, 100, 108⟩)) (by decide +kernel) (by decide +kernel) (by decide +kernel) (by decide +kernel) (by decide +kernel) i h0 h1
theorem KW (w : World) (A : Option Addr) (c : Nat) (hC : Kd.C k78 w A 5 yA) (hc : 5 ≤ c) : Calls Tryz.prog 49 #[.slice A 5 c, .int .i64 100] w fun e w' => e = .returned (.int .i64 0) ∧ Below w.heap.size w w' := by
  have HC := hQ hC
  have HCC := hQ hc
  clear hC hc
  go_enter Tryz.func49, Tryz.ntmps49
  go_wp2_with (fail)
  refine (zcm w A c HC.out).mono ?_
  rintro e w1 ⟨rfl, hb⟩
  have B1 := hQ hb
  clear hb
  go_wp2_with (fail)
  refine (XD _).mono ?_
  rintro e w2 ⟨rfl, hb⟩
  have B2 := hQ (zf B1.out B1.out.size hb)
  clear hb
  go_wp2_with (fail)
  refine (VQ _ A c yA ⟨2, 100, 108⟩ (Kd.zx HC.out B2.out) (by decide) WY).mono ?_
  rintro e w3 ⟨rfl, hb⟩
  have B3 := hQ (zf B2.out B2.out.size hb)
  clear hb
  go_wp2
  exact bodyPost_ret (v := .int .i64 0) (by simp [results, Tryz.results49, go_sem]) rfl ⟨rfl, B3.out⟩
theorem Qw (w : World) (n : Int) (h : n = 2 ∨ n = 4) : Calls Tryz.prog 127 #[.int .i64 n] w fun e w' => e = .returned (.bool true) ∧ Below w.heap.size w w' := by
  rcases h with rfl | rfl
  all_goals
    go_enter Tryz.func127, Tryz.ntmps127
    go_wp2
    exact bodyPost_ret (v := .bool true) (by simp [results, Tryz.results127, go_sem]) rfl ⟨rfl, Below.refl _ _⟩
theorem zbw (w : World) : Calls Tryz.prog 93 #[.agg #[.int .i64 2, .int .i64 4, .int .i64 2]] w fun e w' => e = .returned (.int .i64 0) ∧ Below w.heap.size w w' := by
  have hu81 := Tryz.underlying81
  have hb1 : Below w.heap.size w (w.alloc (.cells #[.int .i64 2, .int .i64 4, .int .i64 2] 81)) := (Below.refl _ _).alloc (Nat.le_refl _) _
  have X1 := hQ (zi w (.cells #[.int .i64 2, .int .i64 4, .int .i64 2] 81 (0, 0)))
  have B1 := hQ hb1
  obtain ⟨x0, x1, x2⟩ := zS X1.out
  have hb : Go.bits .and .i64 4 1 = 0 := by decide +kernel
  clear hb1
  go_enter Tryz.func93, Tryz.ntmps93
  go_wp2_with (fail)
  refine (Qw _ 2 (by decide)).mono ?_
  rintro e w2 ⟨rfl, hd⟩
  have B2 := hQ (zf B1.out B1.out.size hd)
  obtain ⟨y0, y1, y2⟩ := zS (zb X1.out hd)
  clear hd x0 x1 x2
  go_wp2
  exact bodyPost_ret (v := .int .i64 0) (by simp [results, Tryz.results93, go_sem]) rfl ⟨rfl, B2.out⟩
theorem zbP (w : World) : Calls Tryz.prog 93 #[.agg #[.int .i64 2, .int .i64 8, .int .i64 4]] w fun e w' => e = .returned (.int .i64 0) ∧ Below w.heap.size w w' := by
  have hu81 := Tryz.underlying81
  have hb1 : Below w.heap.size w (w.alloc (.cells #[.int .i64 2, .int .i64 8, .int .i64 4] 81)) := (Below.refl _ _).alloc (Nat.le_refl _) _
  have X1 := hQ (zi w (.cells #[.int .i64 2, .int .i64 8, .int .i64 4] 81 (0, 0)))
  have B1 := hQ hb1
  obtain ⟨x0, x1, x2⟩ := zS X1.out
  have hb : Go.bits .and .i64 8 3 = 0 := by decide +kernel
  clear hb1
  go_enter Tryz.func93, Tryz.ntmps93
  go_wp2_with (fail)
  refine (Qw _ 4 (by decide)).mono ?_
  rintro e w2 ⟨rfl, hd⟩
  have B2 := hQ (zf B1.out B1.out.size hd)
  obtain ⟨y0, y1, y2⟩ := zS (zb X1.out hd)
  clear hd x0 x1 x2
  go_wp2
  exact bodyPost_ret (v := .int .i64 0) (by simp [results, Tryz.results93, go_sem]) rfl ⟨rfl, B2.out⟩
theorem zce (w : World) : Calls Tryz.prog 93 #[.agg #[.int .i64 3, .int .i64 4, .int .i64 4]] w fun e w' => e = .returned (.int .i64 0) ∧ Below w.heap.size w w' := by
  have hu81 := Tryz.underlying81
  have hb1 : Below w.heap.size w (w.alloc (.cells #[.int .i64 3, .int .i64 4, .int .i64 4] 81)) := (Below.refl _ _).alloc (Nat.le_refl _) _
  have X1 := hQ (zi w (.cells #[.int .i64 3, .int .i64 4, .int .i64 4] 81 (0, 0)))
  have B1 := hQ hb1
  obtain ⟨x0, x1, x2⟩ := zS X1.out
  have hb : Go.bits .and .i64 4 3 = 0 := by decide +kernel
  clear hb1
  go_enter Tryz.func93, Tryz.ntmps93
  go_wp2_with (fail)
  refine (Qw _ 4 (by decide)).mono ?_
  rintro e w2 ⟨rfl, hd⟩
  have B2 := hQ (zf B1.out B1.out.size hd)
  obtain ⟨y0, y1, y2⟩ := zS (zb X1.out hd)
  clear hd x0 x1 x2
  go_wp2
  exact bodyPost_ret (v := .int .i64 0) (by simp [results, Tryz.results93, go_sem]) rfl ⟨rfl, B2.out⟩
theorem zbd (w : World) : Calls Tryz.prog 94 #[.agg #[.int .i64 2, .int .i64 8, .int .i64 4], .agg #[.int .i64 2, .int .i64 4, .int .i64 2]] w fun e w' => e = .returned (.bool true) ∧ Below w.heap.size w w' := by
  have hu81 := Tryz.underlying81
  have hb1 : Below w.heap.size w ((w.alloc (.cells #[.int .i64 2, .int .i64 8, .int .i64 4] 81)).alloc (.cells #[.int .i64 2, .int .i64 4, .int .i64 2] 81)) := ((Below.refl _ _).alloc (Nat.le_refl _) _).alloc (by simp) _
  have B1 := hQ hb1
  obtain ⟨x0, x1, x2⟩ := zS (zg (zi w (.cells #[.int .i64 2, .int .i64 8, .int .i64 4] 81 (0, 0))) (.cells #[.int .i64 2, .int .i64 4, .int .i64 2] 81))
  obtain ⟨y0, y1, y2⟩ := zS (vJ w (.cells #[.int .i64 2, .int .i64 8, .int .i64 4] 81) (.cells #[.int .i64 2, .int .i64 4, .int .i64 2] 81 (0, 0)))
  clear hb1
  go_enter Tryz.func94, Tryz.ntmps94
  go_wp2
  exact bodyPost_ret (v := .bool true) (by simp [results, Tryz.results94, go_sem]) rfl ⟨rfl, B1.out⟩
theorem zaZ (w : World) : Calls Tryz.prog 94 #[.agg #[.int .i64 3, .int .i64 4, .int .i64 4], .agg #[.int .i64 2, .int .i64 8, .int .i64 4]] w fun e w' => e = .returned (.bool true) ∧ Below w.heap.size w w' := by
  have hu81 := Tryz.underlying81
  have hb1 : Below w.heap.size w ((w.alloc (.cells #[.int .i64 3, .int .i64 4, .int .i64 4] 81)).alloc (.cells #[.int .i64 2, .int .i64 8, .int .i64 4] 81)) := ((Below.refl _ _).alloc (Nat.le_refl _) _).alloc (by simp) _
  have B1 := hQ hb1
  obtain ⟨x0, x1, x2⟩ := zS (zg (zi w (.cells #[.int .i64 3, .int .i64 4, .int .i64 4] 81 (0, 0))) (.cells #[.int .i64 2, .int .i64 8, .int .i64 4] 81))
  obtain ⟨y0, y1, y2⟩ := zS (vJ w (.cells #[.int .i64 3, .int .i64 4, .int .i64 4] 81) (.cells #[.int .i64 2, .int .i64 8, .int .i64 4] 81 (0, 0)))
  clear hb1
  go_enter Tryz.func94, Tryz.ntmps94
  go_wp2
  exact bodyPost_ret (v := .bool true) (by simp [results, Tryz.results94, go_sem]) rfl ⟨rfl, B1.out⟩
theorem Xz (w : World) (A : Option Addr) (c : Nat) (l : List S81) (Am : Option Addr) (cm : Nat) (hC : Kd.C k81 w A l.length l) (hl : l.length ≤ 1000) (hM : Kd.C k78 w Am 5 yA) (hcm : 5 ≤ cm)
    (hA : ∀ j : Int, 0 ≤ j → j < l.length → ∀ W, Calls Tryz.prog 93 #[.agg #[.int .i64 (zH l j).f0, .int .i64 (zH l j).f1, .int .i64 (zH l j).f2]] W fun e w' => e = .returned (.int .i64 0) ∧ Below W.heap.size W w')
    (hB : ∀ j : Int, 0 < j → j < l.length → ∀ W, Calls Tryz.prog 94 #[.agg #[.int .i64 (zH l j).f0, .int .i64 (zH l j).f1, .int .i64 (zH l j).f2], .agg #[.int .i64 (zH l (j - 1)).f0, .int .i64 (zH l (j - 1)).f1, .int .i64 (zH l (j - 1)).f2]] W fun e w' => e = .returned (.bool true) ∧ Below W.heap.size W w')
    (hR : ∀ j : Int, 0 ≤ j → j < l.length → wrap64 ((zH l j).f1 + (zH l j).f2) = (zH l j).f1 + (zH l j).f2)
    (hV : ∀ j : Int, 0 ≤ j → j < l.length → ∃ i : Int, 0 ≤ i ∧ i < yA.length ∧ xI (zJ yA i) ⟨(zH l j).f0, (zH l j).f1, (zH l j).f1 + (zH l j).f2⟩ = ⟨(zH l j).f0, (zH l j).f1, (zH l j).f1 + (zH l j).f2⟩) :
    Calls Tryz.prog 50 #[.slice A l.length c, .slice Am 5 cm] w fun e w' => e = .returned (.int .i64 0) ∧ Below w.heap.size w w' := by
  have hu81 := Tryz.underlying81
  have hu26 := Tryz.underlying26
  have HC := hQ hC
  have HL := hQ hl
  have HM := hQ hM
  have HCM := hQ hcm
  have HA := hQ hA
  have HB2 := hQ hB
  have HRW := hQ hR
  have HCV := hQ hV
  clear hC hl hM hcm hA hB hR hV
  go_enter Tryz.func50, Tryz.ntmps50
  go_wp2_with (fail)
  go_loopg [10] l.length (fun g_ v10 wx => ∃ j : Int, 0 ≤ j ∧ (g_ : Int) = l.length - j ∧ v10 = .int .i64 j ∧ ze (Below w.heap.size w wx))
  case atStart => exact ⟨0, by omega, by omega, rfl, ⟨Below.refl _ _⟩⟩
  case round =>
    obtain ⟨j, hj0, hg, rfl, HB⟩ := hrel
    by_cases he : j < (l.length : Int)
    · have hd : decide (j < (l.length : Int)) = true := dT he
      have HE := hQ (show 0 ≤ j ∧ j < (l.length : Int) ∧ (gk : Int) = l.length - j from ⟨hj0, he, hg⟩)
      obtain ⟨ad, e, hx0, hx1, hx2⟩ := Vd (Kd.zx HC.out HB.out) j hj0 he
      cases e
      have p0 : (0 ≤ j) = True := eq_true hj0
      have q0 : (j < (l.length : Int)) = True := eq_true he
      have hw : wrap64 (j - 1) = j - 1 := zu (by have := HL.out; omega) (by have := HL.out; omega)
      have hw1 : wrap64 (j + 1) = j + 1 := zu (by have := HL.out; omega) (by have := HL.out; omega)
      have hb1 : Below wr.heap.size wr (wr.alloc (.cells #[.int .i64 (zH l j).f0, .int .i64 (zH l j).f1, .int .i64 (zH l j).f2] 81)) := (Below.refl _ _).alloc (Nat.le_refl _) _
      have B1 := hQ (zf HB.out HB.out.size hb1)
      have hX1 := zi wr (.cells #[.int .i64 (zH l j).f0, .int .i64 (zH l j).f1, .int .i64 (zH l j).f2] 81 (0, 0))
      have X1 := hQ (show C3 ⟨wr.heap.size, 0, none⟩ (.int .i64 (zH l j).f0) (.int .i64 (zH l j).f1) (.int .i64 (zH l j).f2) (wr.alloc (.cells #[.int .i64 (zH l j).f0, .int .i64 (zH l j).f1, .int .i64 (zH l j).f2] 81)) from ⟨za hX1 0, za hX1 1, za hX1 2⟩)
      obtain ⟨s0, s1, s2⟩ := X1.out
      clear hb1 hX1 hj0 hg
      go_wp2_with (fail)
      refine (HA.out j HE.out.1 HE.out.2.1 _).mono ?_
      rintro e w2 ⟨rfl, hb⟩
      have B2 := hQ (zf B1.out B1.out.size hb)
      have X2 := hQ (C3.below X1.out hb)
      clear hb s0 s1 s2
      have B3 := hQ (zf B2.out B2.out.size (zl (Below.refl w2.heap.size w2)))
      have X3 := hQ (C3.below X2.out (zl (Below.refl w2.heap.size w2)))
      by_cases hz : 0 < j
      · have hd2 : decide (j > 0) = true := dT hz
        have HZ := hQ hz
        have pz : (1 ≤ j) = True := eq_true (by omega)
        have qz : (j - 1 < (l.length : Int)) = True := eq_true (by omega)
        obtain ⟨ad2, e, hy0, hy1, hy2⟩ := Vd (Kd.zx HC.out B3.out) (j - 1) (by omega) (by omega)
        cases e
        rw [show (j - 1).toNat = j.toNat - 1 by omega] at hy0 hy1 hy2
        have Y3 := hQ (show C3 (ad.add ((j.toNat - 1) * 3)) (.int .i64 (zH l (j - 1)).f0) (.int .i64 (zH l (j - 1)).f1) (.int .i64 (zH l (j - 1)).f2) w2.drew from ⟨hy0, hy1, hy2⟩)
        clear hy0 hy1 hy2 hx0 hx1 hx2 he hz
        go_wp2_with (fail)
        refine sq_ (ds := []) #[false, false, false, false, false, false, false, false, false, false, false, false, false] (fun w' => w'.cell? ⟨wr.heap.size, 0, none⟩ = some (.int .i64 (zH l j).f0) ∧ w'.cell? ⟨wr.heap.size, 1, none⟩ = some (.int .i64 (zH l j).f1) ∧ w'.cell? ⟨wr.heap.size, 2, none⟩ = some (.int .i64 (zH l j).f2) ∧ w'.cell? (ad.add ((j.toNat - 1) * 3)) = some (.int .i64 (zH l (j - 1)).f0) ∧ w'.cell? ⟨(ad.add ((j.toNat - 1) * 3)).block, (ad.add ((j.toNat - 1) * 3)).off + 1, none⟩ = some (.int .i64 (zH l (j - 1)).f1) ∧ w'.cell? ⟨(ad.add ((j.toNat - 1) * 3)).block, (ad.add ((j.toNat - 1) * 3)).off + 2, none⟩ = some (.int .i64 (zH l (j - 1)).f2)) ⟨X3.out.1, X3.out.2.1, X3.out.2.2, Y3.out.1, Y3.out.2.1, Y3.out.2.2⟩ (fun hHeld => ?_)
        refine pq_ 0 (some 22) ?_
        refine pq_ 1 (some 23) ?_
        refine pq_ 2 (some 24) ?_
        refine pq_ 4 (some 26) ?_
        refine pq_ 5 (some 27) ?_
        refine pq_ 6 (some 28) ?_
        refine pq_ 7 (some 29) ?_
        refine tq_ 3 (some 25) hHeld ?_
        refine tq_ 8 (some 30) hHeld ?_
        refine oq_ 9 (some 31) (fun K hK => ?_)
        refine yh Tryz.func94 (by kernel_rfl) rfl #[.agg #[.int .i64 (zH l j).f0, .int .i64 (zH l j).f1, .int .i64 (zH l j).f2], .agg #[.int .i64 (zH l (j - 1)).f0, .int .i64 (zH l (j - 1)).f1, .int .i64 (zH l (j - 1)).f2]] (by rfl) rfl rfl (by (try simp only [List.map_toArray, List.map_cons, List.map_nil]); first | done | rfl) ?_
        refine (HB2.out j (by have := HZ.out; omega) HE.out.2.1 _).mono ?_
        rintro e w4 ⟨rfl, hd_⟩
        refine ⟨_, rfl, ?_⟩
        have B4 := hQ (zf B3.out B3.out.size hd_)
        have X4 := hQ (C3.below X3.out hd_)
        have Y4 := hQ (C3.below Y3.out hd_)
        clear hd_
        refine hK.out _ _ ⟨X4.out.1, X4.out.2.1, X4.out.2.2, Y4.out.1, Y4.out.2.1, Y4.out.2.2⟩ (fun hHeld => ?_)
        clear hK K
        refine nq_ ?_
        refine pq_ 10 (some 32) ?_
        refine pq_ 11 (some 33) ?_
        refine pq_ 12 (some 21) ?_
        refine xJ (by kernel_rfl) ?_
        obtain ⟨s0, s1, s2⟩ := X4.out
        go_wp2_with (fail)
        refine (zaI _ (zH l j).f0 (zH l j).f1 (zH l j).f2 (HRW.out j HE.out.1 HE.out.2.1)).mono ?_
        rintro e w5 ⟨rfl, hd_⟩
        have B5 := hQ (zf B4.out B4.out.size hd_)
        clear hd_
        go_wp2_with (fail)
        refine (ZH _ Am cm yA ⟨(zH l j).f0, (zH l j).f1, (zH l j).f1 + (zH l j).f2⟩ true (Kd.zx HM.out B5.out) (by decide) (HCV.out j HE.out.1 HE.out.2.1)).mono ?_
        rintro e w6 ⟨rfl, hd_⟩
        have B6 := hQ (zf B5.out B5.out.size hd_)
        clear hd_
        go_wp2
        go_roundg (l.length - (j + 1)).toNat
        case measure => have := HE.out; omega
        case rel => have := HE.out; exact ⟨j + 1, by omega, by omega, by first | rfl | rw [hw1], ⟨B6.out⟩⟩
      · have hd2 : decide (j > 0) = false := dF hz
        have B4 := B3
        clear hx0 hx1 hx2 he hz
        go_wp2_with (fail)
        obtain ⟨s0, s1, s2⟩ := X3.out
        go_region
        go_wp2_with (fail)
        refine (zaI _ (zH l j).f0 (zH l j).f1 (zH l j).f2 (HRW.out j HE.out.1 HE.out.2.1)).mono ?_
        rintro e w5 ⟨rfl, hd_⟩
        have B5 := hQ (zf B4.out B4.out.size hd_)
        clear hd_
        go_wp2_with (fail)
        refine (ZH _ Am cm yA ⟨(zH l j).f0, (zH l j).f1, (zH l j).f1 + (zH l j).f2⟩ true (Kd.zx HM.out B5.out) (by decide) (HCV.out j HE.out.1 HE.out.2.1)).mono ?_
        rintro e w6 ⟨rfl, hd_⟩
        have B6 := hQ (zf B5.out B5.out.size hd_)
        clear hd_
        go_wp2
        go_roundg (l.length - (j + 1)).toNat
        case measure => have := HE.out; omega
        case rel => have := HE.out; exact ⟨j + 1, by omega, by omega, by first | rfl | rw [hw1], ⟨B6.out⟩⟩
    · have hd : decide (j < (l.length : Int)) = false := dF he
      clear he hj0 hg
      go_wp2
      exact bodyPost_ret (v := .int .i64 0) (by simp [results, Tryz.results50, go_sem]) rfl ⟨rfl, HB.out⟩
theorem zbV : zH zY 0 = ⟨2, 4, 2⟩ := rfl
theorem za0 : zH zY 1 = ⟨2, 8, 4⟩ := rfl
theorem zcg : zH zY 2 = ⟨3, 4, 4⟩ := rfl
theorem VP (a b : Int) (h : 0 ≤ a ∧ a < 1000 ∧ 0 ≤ b ∧ b < 1000) : wrap64 (a + b) = a + b := zu (by omega) (by omega)
theorem JX (w : World) (A : Option Addr) (c : Nat) (Am : Option Addr) (cm : Nat) (hC : Kd.C k81 w A 3 zY) (hM : Kd.C k78 w Am 5 yA) (hcm : 5 ≤ cm) :
    Calls Tryz.prog 50 #[.slice A 3 c, .slice Am 5 cm] w fun e w' => e = .returned (.int .i64 0) ∧ Below w.heap.size w w' := by
  have h3 : ∀ j : Int, 0 ≤ j → j < zY.length → j = 0 ∨ j = 1 ∨ j = 2 := fun j h0 h1 => by
    have : (zY.length : Int) = 3 := rfl
    omega
  refine Xz w A c zY Am cm hC (by decide) hM hcm (fun j h0 h1 W => ?_) (fun j h0 h1 W => ?_) (fun j h0 h1 => ?_) (fun j h0 h1 => ?_)
  · rcases h3 j h0 h1 with rfl | rfl | rfl
    · rw [zbV]; exact zbw W
    · rw [za0]; exact zbP W
    · rw [zcg]; exact zce W
  · rcases h3 j (by omega) h1 with rfl | rfl | rfl
    · exact absurd h0 (by decide)
    · rw [show (1 : Int) - 1 = 0 from rfl, zbV, za0]; exact zbd W
    · rw [show (2 : Int) - 1 = 1 from rfl, za0, zcg]; exact zaZ W
  · rcases h3 j h0 h1 with rfl | rfl | rfl
    · rw [zbV]; exact VP 4 2 (by decide)
    · rw [za0]; exact VP 8 4 (by decide)
    · rw [zcg]; exact VP 4 4 (by decide)
  · rcases h3 j h0 h1 with rfl | rfl | rfl
    · rw [zbV]; exact ⟨2, by decide, by decide, by kernel_rfl⟩
    · rw [za0]; exact ⟨2, by decide, by decide, by kernel_rfl⟩
    · rw [zcg]; exact ⟨4, by decide, by decide, by kernel_rfl⟩
end Go.Proofs.YtlalbohhopmpdaaGreat.Top
namespace Go.Proofs.YtlalbohhopmpdaaGreat.Top
open Go.RowKit Go.Proofs.YtlalbohhopmpdaaGreat.PTop Go.YW.PrintWords Go.YW.PrintLast Go.YW.PrintMore Go.Proofs.YtlalbohhopmpdaaGreat.Num
theorem ve : (Tryz.prog.info? 78).map (fun i => (i.zero, i.size, i.bytes)) = some (some (.agg #[(.int .i64 0), (.int .i64 0), (.int .i64 0)]), 3, 24) := by kernel_rfl
theorem Jg (A0 : Option Addr) (c0 : Nat) (l0 : List S78) (w : World) (hr0 : Kd.C (k78) w A0 l0.length l0) (hc0 : l0.length ≤ c0) (hlt : l0.length ≤ 100000) :
    Calls Tryz.prog 23 #[.slice A0 l0.length c0] w fun e w' => ∃ A c, e = .returned (.slice A l0.length c) ∧ Kd.R (k78) 78 w' w.heap.size (fun _ => True) (.slice A l0.length c) l0 ∧ Below w.heap.size w w' := by
  have hnil := @Lib.run_eql_slice_nil Tryz.prog
  cases A0 with
  | none =>
    have hl : l0 = [] := by
      rcases Nat.eq_zero_or_pos l0.length with h0 | h0
      · exact List.eq_nil_of_length_eq_zero h0
      · obtain ⟨ad, e, _⟩ := hr0.2.2 h0
        cases e
    subst hl
    go_enter Tryz.func23, Tryz.ntmps23
    go_wp2
    go_ret
    exact ⟨_, _, rfl, Kd.ql _ _ _ _ _, Below.refl _ _⟩
  | some a0 =>
    go_enter Tryz.func23, Tryz.ntmps23
    have HR := ze.mk hr0
    have HL := ze.mk hlt
    clear hr0 hlt
    go_wp2_with (first | ((with_reducible refine zN (N := 5) rfl ?_); refine Kd.vw (k78) (w0 := w) w.heap.size 78 ?hg (N := 5) ?hd (xs := ([] : List S78)) (inner := []) (ok := fun _ => True) (okp := fun _ => True) ?hr (yJ.none _ _) (fun _ h => h) trivial (Below.refl _ _) (Nat.le_refl _) (by simp) ?_; (case hd => rfl); (case hg => rfl); (case hr => first | (go_simp; done) | (go_simp; rfl)); intro v1 w1 ho hb hg_ _; have HO := ze.mk ho; have HB := ze.mk hb; clear ho hb hg_) | ((with_reducible refine yj (b := .append) (xs := #[.tmp 5, .tmp 6]) (ts := #[25, 25]) rfl ?_); refine Kd.yD (k78) (w0 := w) w.heap.size rfl (.tmp 5) (.tmp 6) 25 78 (.agg #[(.int .i64 0), (.int .i64 0), (.int .i64 0)]) 24 rfl Tryz.underlying25 ve rfl (by decide) (by omega) _ ([] : List S78) l0 _ _ _ (fun _ => True) (fun _ => False) rfl rfl HO.out (Kd.zx HR.out HB.out) (fun (y : S78) (cs : List Value) (h : k78.K _ y cs) => by rw [Xg h]; exact jm _ _ _ y) (fun _ h => h.elim) (fun _ _ => trivial) HB.out HB.out.size ?aL ?_; (case aL => have := HL.out; simp; omega); intro v2 w2 ho hb hg_ _; have HO2 := ze.mk ho; have HB2 := ze.mk hb; clear ho hb hg_))
    go_ret
    have ho := HO2.out
    rw [List.nil_append] at ho
    obtain ⟨A, c, rfl⟩ := Kd.yc ho
    exact ⟨A, c, rfl, ho, HB2.out⟩
theorem vX : (Tryz.prog.info? 208).map (fun i => (i.zero, i.size, i.bytes)) = some (some (.agg #[(.int .i64 0), (.int .i64 0), (.int .u16 0)]), 3, 24) := by kernel_rfl
theorem Jz (A0 : Option Addr) (c0 : Nat) (l0 : List yg) (w : World) (hr0 : Kd.C (xL) w A0 l0.length l0) (hc0 : l0.length ≤ c0) (hlt : l0.length ≤ 100000) :
    Calls Tryz.prog 251 #[.slice A0 l0.length c0] w fun e w' => ∃ A c, e = .returned (.slice A l0.length c) ∧ Kd.R (xL) 208 w' w.heap.size (fun _ => True) (.slice A l0.length c) l0 ∧ Below w.heap.size w w' := by
  have hnil := @Lib.run_eql_slice_nil Tryz.prog
  cases A0 with
  | none =>
    have hl : l0 = [] := by
      rcases Nat.eq_zero_or_pos l0.length with h0 | h0
      · exact List.eq_nil_of_length_eq_zero h0
      · obtain ⟨ad, e, _⟩ := hr0.2.2 h0
        cases e
    subst hl
    go_enter Tryz.func251, Tryz.ntmps251
    go_wp2
    go_ret
    exact ⟨_, _, rfl, Kd.ql _ _ _ _ _, Below.refl _ _⟩
  | some a0 =>
    go_enter Tryz.func251, Tryz.ntmps251
    have HR := ze.mk hr0
    have HL := ze.mk hlt
    clear hr0 hlt
    go_wp2_with (first | ((with_reducible refine zN (N := 5) rfl ?_); refine Kd.vw (xL) (w0 := w) w.heap.size 208 ?hg (N := 5) ?hd (xs := ([] : List yg)) (inner := []) (ok := fun _ => True) (okp := fun _ => True) ?hr (yJ.none _ _) (fun _ h => h) trivial (Below.refl _ _) (Nat.le_refl _) (by simp) ?_; (case hd => rfl); (case hg => rfl); (case hr => first | (go_simp; done) | (go_simp; rfl)); intro v1 w1 ho hb hg_ _; have HO := ze.mk ho; have HB := ze.mk hb; clear ho hb hg_) | ((with_reducible refine yj (b := .append) (xs := #[.tmp 5, .tmp 6]) (ts := #[155, 155]) rfl ?_); refine Kd.yD (xL) (w0 := w) w.heap.size rfl (.tmp 5) (.tmp 6) 155 208 (.agg #[(.int .i64 0), (.int .i64 0), (.int .u16 0)]) 24 rfl Tryz.underlying155 vX rfl (by decide) (by omega) _ ([] : List yg) l0 _ _ _ (fun _ => True) (fun _ => False) rfl rfl HO.out (Kd.zx HR.out HB.out) (fun (y : yg) (cs : List Value) (h : xL.K _ y cs) => by rw [ZR h]; exact jW _ _ _ y) (fun _ h => h.elim) (fun _ _ => trivial) HB.out HB.out.size ?aL ?_; (case aL => have := HL.out; simp; omega); intro v2 w2 ho hb hg_ _; have HO2 := ze.mk ho; have HB2 := ze.mk hb; clear ho hb hg_))
    go_ret
    have ho := HO2.out
    rw [List.nil_append] at ho
    obtain ⟨A, c, rfl⟩ := Kd.yc ho
    exact ⟨A, c, rfl, ho, HB2.out⟩
theorem zbN : (Tryz.prog.info? 81).map (fun i => (i.zero, i.size, i.bytes)) = some (some (.agg #[(.int .i64 0), (.int .i64 0), (.int .i64 0)]), 3, 24) := by kernel_rfl
theorem zaz (A0 : Option Addr) (c0 : Nat) (l0 : List S81) (w : World) (hr0 : Kd.C (k81) w A0 l0.length l0) (hc0 : l0.length ≤ c0) (hlt : l0.length ≤ 100000) :
    Calls Tryz.prog 24 #[.slice A0 l0.length c0] w fun e w' => ∃ A c, e = .returned (.slice A l0.length c) ∧ Kd.R (k81) 81 w' w.heap.size (fun _ => True) (.slice A l0.length c) l0 ∧ Below w.heap.size w w' := by
  have hnil := @Lib.run_eql_slice_nil Tryz.prog
  cases A0 with
  | none =>
    have hl : l0 = [] := by
      rcases Nat.eq_zero_or_pos l0.length with h0 | h0
      · exact List.eq_nil_of_length_eq_zero h0
      · obtain ⟨ad, e, _⟩ := hr0.2.2 h0
        cases e
    subst hl
    go_enter Tryz.func24, Tryz.ntmps24
    go_wp2
    go_ret
    exact ⟨_, _, rfl, Kd.ql _ _ _ _ _, Below.refl _ _⟩
  | some a0 =>
    go_enter Tryz.func24, Tryz.ntmps24
    have HR := ze.mk hr0
    have HL := ze.mk hlt
    clear hr0 hlt
    go_wp2_with (first | ((with_reducible refine zN (N := 5) rfl ?_); refine Kd.vw (k81) (w0 := w) w.heap.size 81 ?hg (N := 5) ?hd (xs := ([] : List S81)) (inner := []) (ok := fun _ => True) (okp := fun _ => True) ?hr (yJ.none _ _) (fun _ h => h) trivial (Below.refl _ _) (Nat.le_refl _) (by simp) ?_; (case hd => rfl); (case hg => rfl); (case hr => first | (go_simp; done) | (go_simp; rfl)); intro v1 w1 ho hb hg_ _; have HO := ze.mk ho; have HB := ze.mk hb; clear ho hb hg_) | ((with_reducible refine yj (b := .append) (xs := #[.tmp 5, .tmp 6]) (ts := #[26, 26]) rfl ?_); refine Kd.yD (k81) (w0 := w) w.heap.size rfl (.tmp 5) (.tmp 6) 26 81 (.agg #[(.int .i64 0), (.int .i64 0), (.int .i64 0)]) 24 rfl Tryz.underlying26 zbN rfl (by decide) (by omega) _ ([] : List S81) l0 _ _ _ (fun _ => True) (fun _ => False) rfl rfl HO.out (Kd.zx HR.out HB.out) (fun (y : S81) (cs : List Value) (h : k81.K _ y cs) => by rw [Jf h]; exact YF _ _ _ y) (fun _ h => h.elim) (fun _ _ => trivial) HB.out HB.out.size ?aL ?_; (case aL => have := HL.out; simp; omega); intro v2 w2 ho hb hg_ _; have HO2 := ze.mk ho; have HB2 := ze.mk hb; clear ho hb hg_))
    go_ret
    have ho := HO2.out
    rw [List.nil_append] at ho
    obtain ⟨A, c, rfl⟩ := Kd.yc ho
    exact ⟨A, c, rfl, ho, HB2.out⟩
theorem zbT : (Tryz.prog.info? 84).map (fun i => (i.zero, i.size, i.bytes)) = some (some (.agg #[(.int .i64 0), (.string ⟨#[]⟩)]), 2, 24) := by kernel_rfl
theorem zaU (A0 : Option Addr) (c0 : Nat) (l0 : List S84) (w : World) (hr0 : Kd.C (k84) w A0 l0.length l0) (hc0 : l0.length ≤ c0) (hlt : l0.length ≤ 100000) :
    Calls Tryz.prog 25 #[.slice A0 l0.length c0] w fun e w' => ∃ A c, e = .returned (.slice A l0.length c) ∧ Kd.R (k84) 84 w' w.heap.size (fun _ => True) (.slice A l0.length c) l0 ∧ Below w.heap.size w w' := by
  have hnil := @Lib.run_eql_slice_nil Tryz.prog
  cases A0 with
  | none =>
    have hl : l0 = [] := by
      rcases Nat.eq_zero_or_pos l0.length with h0 | h0
      · exact List.eq_nil_of_length_eq_zero h0
      · obtain ⟨ad, e, _⟩ := hr0.2.2 h0
        cases e
    subst hl
    go_enter Tryz.func25, Tryz.ntmps25
    go_wp2
    go_ret
    exact ⟨_, _, rfl, Kd.ql _ _ _ _ _, Below.refl _ _⟩
  | some a0 =>
    go_enter Tryz.func25, Tryz.ntmps25
    have HR := ze.mk hr0
    have HL := ze.mk hlt
    clear hr0 hlt
    go_wp2_with (first | ((with_reducible refine zN (N := 5) rfl ?_); refine Kd.vw (k84) (w0 := w) w.heap.size 84 ?hg (N := 5) ?hd (xs := ([] : List S84)) (inner := []) (ok := fun _ => True) (okp := fun _ => True) ?hr (yJ.none _ _) (fun _ h => h) trivial (Below.refl _ _) (Nat.le_refl _) (by simp) ?_; (case hd => rfl); (case hg => rfl); (case hr => first | (go_simp; done) | (go_simp; rfl)); intro v1 w1 ho hb hg_ _; have HO := ze.mk ho; have HB := ze.mk hb; clear ho hb hg_) | ((with_reducible refine yj (b := .append) (xs := #[.tmp 5, .tmp 6]) (ts := #[28, 28]) rfl ?_); refine Kd.yD (k84) (w0 := w) w.heap.size rfl (.tmp 5) (.tmp 6) 28 84 (.agg #[(.int .i64 0), (.string ⟨#[]⟩)]) 24 rfl Tryz.underlying28 zbT rfl (by decide) (by omega) _ ([] : List S84) l0 _ _ _ (fun _ => True) (fun _ => False) rfl rfl HO.out (Kd.zx HR.out HB.out) (fun (y : S84) (cs : List Value) (h : k84.K _ y cs) => by rw [Jv h]; exact YG _ _ _ y) (fun _ h => h.elim) (fun _ _ => trivial) HB.out HB.out.size ?aL ?_; (case aL => have := HL.out; simp; omega); intro v2 w2 ho hb hg_ _; have HO2 := ze.mk ho; have HB2 := ze.mk hb; clear ho hb hg_))
    go_ret
    have ho := HO2.out
    rw [List.nil_append] at ho
    obtain ⟨A, c, rfl⟩ := Kd.yc ho
    exact ⟨A, c, rfl, ho, HB2.out⟩
theorem VN : (Tryz.prog.info? 33).map (fun i => (i.zero, i.size, i.bytes)) = some (some (.int .u16 0), 1, 2) := by kernel_rfl
theorem za3 (A0 : Option Addr) (c0 : Nat) (l0 : List Int) (w : World) (hr0 : Kd.C (Kd.int .u16) w A0 l0.length l0) (hc0 : l0.length ≤ c0) (hlt : l0.length ≤ 100000) :
    Calls Tryz.prog 207 #[.slice A0 l0.length c0] w fun e w' => ∃ A c, e = .returned (.slice A l0.length c) ∧ Kd.R (Kd.int .u16) 33 w' w.heap.size (fun _ => True) (.slice A l0.length c) l0 ∧ Below w.heap.size w w' := by
  have hnil := @Lib.run_eql_slice_nil Tryz.prog
  cases A0 with
  | none =>
    have hl : l0 = [] := by
      rcases Nat.eq_zero_or_pos l0.length with h0 | h0
      · exact List.eq_nil_of_length_eq_zero h0
      · obtain ⟨ad, e, _⟩ := hr0.2.2 h0
        cases e
    subst hl
    go_enter Tryz.func207, Tryz.ntmps207
    go_wp2
    go_ret
    exact ⟨_, _, rfl, Kd.ql _ _ _ _ _, Below.refl _ _⟩
  | some a0 =>
    go_enter Tryz.func207, Tryz.ntmps207
    have HR := ze.mk hr0
    have HL := ze.mk hlt
    clear hr0 hlt
    go_wp2_with (first | ((with_reducible refine zN (N := 5) rfl ?_); refine Kd.vw (Kd.int .u16) (w0 := w) w.heap.size 33 ?hg (N := 5) ?hd (xs := ([] : List Int)) (inner := []) (ok := fun _ => True) (okp := fun _ => True) ?hr (yJ.none _ _) (fun _ h => h) trivial (Below.refl _ _) (Nat.le_refl _) (by simp) ?_; (case hd => rfl); (case hg => rfl); (case hr => first | (go_simp; done) | (go_simp; rfl)); intro v1 w1 ho hb hg_ _; have HO := ze.mk ho; have HB := ze.mk hb; clear ho hb hg_) | ((with_reducible refine yj (b := .append) (xs := #[.tmp 5, .tmp 6]) (ts := #[35, 35]) rfl ?_); refine Kd.yD (Kd.int .u16) (w0 := w) w.heap.size rfl (.tmp 5) (.tmp 6) 35 33 (.int .u16 0) 2 rfl Tryz.underlying35 VN rfl (by decide) (by omega) _ ([] : List Int) l0 _ _ _ (fun _ => True) (fun _ => False) rfl rfl HO.out (Kd.zx HR.out HB.out) (fun _ _ h => h) (fun _ h => h.elim) (fun _ _ => trivial) HB.out HB.out.size ?aL ?_; (case aL => have := HL.out; simp; omega); intro v2 w2 ho hb hg_ _; have HO2 := ze.mk ho; have HB2 := ze.mk hb; clear ho hb hg_))
    go_ret
    have ho := HO2.out
    rw [List.nil_append] at ho
    obtain ⟨A, c, rfl⟩ := Kd.yc ho
    exact ⟨A, c, rfl, ho, HB2.out⟩
end Go.Proofs.YtlalbohhopmpdaaGreat.Top
