/- Words and walks for TopSkew (made of the session's own texts; each part by itself). -/
import Derived.Deep.DeepCutAuto
import Derived.Deep.DeepMust
import Derived.Deep.RegionLaw
import Derived.Test.YtlalbohhopmpdaaGreatZTopSkew21
set_option maxRecDepth 100000
set_option maxHeartbeats 8000000
set_option linter.unusedVariables false
set_option linter.unusedSimpArgs false
namespace Go.Proofs.YtlalbohhopmpdaaGreat.Top
open Go.RowKit Go.Proofs.YtlalbohhopmpdaaGreat.PTop Go.YW.PrintWords Go.YW.PrintLast Go.YW.PrintMore Go.Proofs.YtlalbohhopmpdaaGreat.Num
attribute [local go_sem] zm zu
theorem zcw (w : World) (a v : Int) : Calls Tryz.prog 85 #[.agg #[.int .i64 6, .int .i64 0, .slice none 0 0, .slice none 0 0, .int .i64 a, .int .i64 0, .int .u16 v, .int .u16 0, .int .u16 0, .int .i64 0, .int .i64 0, .bool false, .int .i64 0, .slice none 0 0]] w fun e w' => e = .returned (.bool true) ∧ Below w.heap.size w w' := by
  have hu41 := Tryz.underlying41
  obtain ⟨x0, x1, x2, x3, x4, x5, x6, x7, x8, x9, x10, x11, x12, x13⟩ := yn (zi w (.cells #[.int .i64 6, .int .i64 0, .slice none 0 0, .slice none 0 0, .int .i64 a, .int .i64 0, .int .u16 v, .int .u16 0, .int .u16 0, .int .i64 0, .int .i64 0, .bool false, .int .i64 0, .slice none 0 0] 41))
  have B1 := hQ (show Below w.heap.size w (w.alloc (.cells #[.int .i64 6, .int .i64 0, .slice none 0 0, .slice none 0 0, .int .i64 a, .int .i64 0, .int .u16 v, .int .u16 0, .int .u16 0, .int .i64 0, .int .i64 0, .bool false, .int .i64 0, .slice none 0 0] 41)) from (Below.refl _ _).alloc (Nat.le_refl _) _)
  go_enter Tryz.func85, Tryz.ntmps85
  go_wp2
  exact bodyPost_ret (v := .bool true) (by simp [results, Tryz.results85, go_sem]) rfl ⟨rfl, B1.out⟩
theorem zaQ (w : World) (a v : Int) (ha : 0 ≤ a ∧ a < 65536) : Calls Tryz.prog 46 #[.agg #[.int .i64 6, .int .i64 0, .slice none 0 0, .slice none 0 0, .int .i64 a, .int .i64 0, .int .u16 v, .int .u16 0, .int .u16 0, .int .i64 0, .int .i64 0, .bool false, .int .i64 0, .slice none 0 0]] w fun e w' => e = .returned (.bool true) ∧ Below w.heap.size w w' := by
  have hu41 := Tryz.underlying41
  have X1 := hQ (zi w (.cells #[.int .i64 6, .int .i64 0, .slice none 0 0, .slice none 0 0, .int .i64 a, .int .i64 0, .int .u16 v, .int .u16 0, .int .u16 0, .int .i64 0, .int .i64 0, .bool false, .int .i64 0, .slice none 0 0] 41))
  obtain ⟨x0, x1, x2, x3, x4, x5, x6, x7, x8, x9, x10, x11, x12, x13⟩ := yn X1.out
  have B1 := hQ (show Below w.heap.size w (w.alloc (.cells #[.int .i64 6, .int .i64 0, .slice none 0 0, .slice none 0 0, .int .i64 a, .int .i64 0, .int .u16 v, .int .u16 0, .int .u16 0, .int .i64 0, .int .i64 0, .bool false, .int .i64 0, .slice none 0 0] 41)) from (Below.refl _ _).alloc (Nat.le_refl _) _)
  have hP := fun w => zcw w a v
  have hA := hQ ha
  go_enter Tryz.func46, Tryz.ntmps46
  go_wp2_with (fail)
  refine (hP _).mono ?_
  rintro e w2 ⟨rfl, hd⟩
  have B2 := hQ (ze B1.out B1.out.size hd)
  have X2 := hQ (zb X1.out hd)
  clear hd x0 x1 x2 x3 x4 x5 x6 x7 x8 x9 x10 x11 x12 x13
  obtain ⟨x0, x1, x2, x3, x4, x5, x6, x7, x8, x9, x10, x11, x12, x13⟩ := yn X2.out
  go_wp2_with (fail)
  refine (WK _).mono ?_
  rintro e w3 ⟨rfl, hd⟩
  have B3 := hQ (ze B2.out B2.out.size hd.below)
  have X3 := hQ (zb X2.out hd.below)
  clear hd x0 x1 x2 x3 x4 x5 x6 x7 x8 x9 x10 x11 x12 x13
  obtain ⟨x0, x1, x2, x3, x4, x5, x6, x7, x8, x9, x10, x11, x12, x13⟩ := yn X3.out
  go_wp2_with (fail)
  refine (Xg _ a hA.out).mono ?_
  rintro e w4 ⟨rfl, hd⟩
  have B4 := hQ (ze B3.out B3.out.size hd.below)
  clear hd
  go_wp2_with (fail)
  exact bodyPost_ret (v := .bool true) (by simp [results, Tryz.results46, go_sem]) rfl ⟨rfl, B4.out⟩
theorem zcL (w : World) (A : Option Addr) (m c : Nat) : Calls Tryz.prog 85 #[.agg #[.int .i64 3, .int .i64 0, .slice none 0 0, .slice A m c, .int .i64 0, .int .i64 0, .int .u16 0, .int .u16 0, .int .u16 0, .int .i64 0, .int .i64 0, .bool false, .int .i64 0, .slice none 0 0]] w fun e w' => e = .returned (.bool true) ∧ Below w.heap.size w w' := by
  have hu41 := Tryz.underlying41
  obtain ⟨x0, x1, x2, x3, x4, x5, x6, x7, x8, x9, x10, x11, x12, x13⟩ := yn (zi w (.cells #[.int .i64 3, .int .i64 0, .slice none 0 0, .slice A m c, .int .i64 0, .int .i64 0, .int .u16 0, .int .u16 0, .int .u16 0, .int .i64 0, .int .i64 0, .bool false, .int .i64 0, .slice none 0 0] 41))
  have B1 := hQ (show Below w.heap.size w (w.alloc (.cells #[.int .i64 3, .int .i64 0, .slice none 0 0, .slice A m c, .int .i64 0, .int .i64 0, .int .u16 0, .int .u16 0, .int .u16 0, .int .i64 0, .int .i64 0, .bool false, .int .i64 0, .slice none 0 0] 41)) from (Below.refl _ _).alloc (Nat.le_refl _) _)
  go_enter Tryz.func85, Tryz.ntmps85
  go_wp2
  exact bodyPost_ret (v := .bool true) (by simp [results, Tryz.results85, go_sem]) rfl ⟨rfl, B1.out⟩
theorem Ji (w : World) (A : Option Addr) (m c : Nat) (hm : 1 ≤ m ∧ m ≤ 125) : Calls Tryz.prog 46 #[.agg #[.int .i64 3, .int .i64 0, .slice none 0 0, .slice A m c, .int .i64 0, .int .i64 0, .int .u16 0, .int .u16 0, .int .u16 0, .int .i64 0, .int .i64 0, .bool false, .int .i64 0, .slice none 0 0]] w fun e w' => e = .returned (.bool true) ∧ Below w.heap.size w w' := by
  have hu41 := Tryz.underlying41
  have X1 := hQ (zi w (.cells #[.int .i64 3, .int .i64 0, .slice none 0 0, .slice A m c, .int .i64 0, .int .i64 0, .int .u16 0, .int .u16 0, .int .u16 0, .int .i64 0, .int .i64 0, .bool false, .int .i64 0, .slice none 0 0] 41))
  obtain ⟨x0, x1, x2, x3, x4, x5, x6, x7, x8, x9, x10, x11, x12, x13⟩ := yn X1.out
  have B1 := hQ (show Below w.heap.size w (w.alloc (.cells #[.int .i64 3, .int .i64 0, .slice none 0 0, .slice A m c, .int .i64 0, .int .i64 0, .int .u16 0, .int .u16 0, .int .u16 0, .int .i64 0, .int .i64 0, .bool false, .int .i64 0, .slice none 0 0] 41)) from (Below.refl _ _).alloc (Nat.le_refl _) _)
  have hP := fun w => zcL w A m c
  have d1 : decide ((m : Int) ≥ 1) = true := decide_eq_true (by omega)
  have d2 : decide ((m : Int) ≤ 125) = true := decide_eq_true (by omega)
  have d3 : ((m : Int) ≥ 1) = True := eq_true (by omega)
  clear hm
  go_enter Tryz.func46, Tryz.ntmps46
  go_wp2_with (fail)
  refine (hP _).mono ?_
  rintro e w2 ⟨rfl, hd⟩
  have B2 := hQ (ze B1.out B1.out.size hd)
  have X2 := hQ (zb X1.out hd)
  clear hd x0 x1 x2 x3 x4 x5 x6 x7 x8 x9 x10 x11 x12 x13
  obtain ⟨x0, x1, x2, x3, x4, x5, x6, x7, x8, x9, x10, x11, x12, x13⟩ := yn X2.out
  go_wp2_with (fail)
  refine (zaW _).mono ?_
  rintro e w3 ⟨rfl, hd⟩
  have B3 := hQ (ze B2.out B2.out.size hd.below)
  have X3 := hQ (zb X2.out hd.below)
  clear hd x0 x1 x2 x3 x4 x5 x6 x7 x8 x9 x10 x11 x12 x13
  obtain ⟨x0, x1, x2, x3, x4, x5, x6, x7, x8, x9, x10, x11, x12, x13⟩ := yn X3.out
  go_wp2
  exact bodyPost_ret (v := .bool true) (by simp [results, Tryz.results46, go_sem]) rfl ⟨rfl, B3.out⟩
theorem zb8 (w : World) (g0 c : Nat) (nn : Int) (hC : Kd.C (Kd.int .u8) w (some ⟨g0, 0, none⟩) 2 [134, 4]) (hc : 2 ≤ c) :
    Calls Tryz.prog 19 #[.slice (some ⟨g0, 0, none⟩) 2 c, .int .i64 nn] w fun e w' => e = .returned (.tuple #[zT 6 4 (.slice none 0 0) 0 0, .int .i64 0]) ∧ Below w.heap.size w w' := by
  have hu41 := Tryz.underlying41
  have i0 := Ring.C_cell hC rfl 0 134 rfl
  have i1 := Ring.C_cell hC rfl 1 4 rfl
  have hg : g0 < w.heap.size := World.block_lt_of_cell? _ _ i0
  have B1 := hQ (show Below w.heap.size w (w.alloc (.cells zY 41)) from (Below.refl _ _).alloc (Nat.le_refl _) _)
  have X1 := hQ (zi w (.cells zY 41))
  have C1 := hQ (Kd.zz hC B1.out)
  clear hC hc
  simp only [zT, zI, zY] at B1 X1 C1 ⊢
  go_enter Tryz.func19, Tryz.ntmps19
  go_wp2_with (fail)
  refine (qO.calls 4 true _ (by kernel_rfl)).mono ?_
  rintro e w2 ⟨rfl, hd⟩
  have B2 := hQ (ze B1.out B1.out.size hd.below)
  have X2 := hQ (zb X1.out hd.below)
  have C2 := hQ (Kd.zz C1.out hd.below)
  clear hd i0 i1
  have i0 := Ring.C_cell C2.out rfl 0 134 rfl
  have i1 := Ring.C_cell C2.out rfl 1 4 rfl
  obtain ⟨x0, x1, x2, x3, x4, x5, x6, x7, x8, x9, x10, x11, x12, x13⟩ := yn X2.out
  have fx : ∀ i, w2.frozen? ⟨w.heap.size, i, none⟩ = false := fun i => zh X2.out i
  go_wp2
  go_region
  go_wp2
  refine bodyPost_ret (v := .tuple #[.agg #[.int .i64 6, .int .i64 4, .slice none 0 0, .slice none 0 0, .int .i64 0, .int .i64 0, .int .u16 0, .int .u16 0, .int .u16 0, .int .i64 0, .int .i64 0, .bool false, .int .i64 0, .slice none 0 0], .int .i64 0]) ?_ rfl ⟨rfl, B2.out.trans ?_⟩
  · simp [results, Tryz.results19, go_sem, hu41, x0, x1, x2, x3, x4, x5, x6, x7, x8, x9, x10, x11, x12, x13]
  · repeat (with_reducible first | exact Below.refl _ _ | (refine jc ?_ (Nat.le_refl _)) | apply zk)
theorem zbh (w : World) (g0 c : Nat) (a v nn : Int) (ha : okA a ∨ a = 100) (ha2 : 0 ≤ a ∧ a < 256) (hv : 0 ≤ v ∧ v < 65536) (hC : Kd.C (Kd.int .u8) w (some ⟨g0, 0, none⟩) 5 [6, 0, a, v / 256, v % 256]) (hc : 5 ≤ c) :
    Calls Tryz.prog 19 #[.slice (some ⟨g0, 0, none⟩) 5 c, .int .i64 nn] w fun e w' => e = .returned (.tuple #[zT 6 0 (.slice none 0 0) a v, .int .i64 0]) ∧ Below w.heap.size w w' := by
  have hu41 := Tryz.underlying41
  have i0 := Ring.C_cell hC rfl 0 6 rfl
  have hg : g0 < w.heap.size := World.block_lt_of_cell? _ _ i0
  have B1 := hQ (show Below w.heap.size w (w.alloc (.cells zY 41)) from (Below.refl _ _).alloc (Nat.le_refl _) _)
  have X1 := hQ (zi w (.cells zY 41))
  have C1 := hQ (Kd.zz hC B1.out)
  have HC := hQ hc
  have hH := zbX _ g0 c a v nn ha2 hv C1.out HC.out
  clear hC hc
  simp only [zT, zI, zY] at B1 X1 C1 hH ⊢
  go_enter Tryz.func19, Tryz.ntmps19
  go_wp2_with (fail)
  refine hH.mono ?_
  rintro e w2 ⟨rfl, hb⟩
  have B2 := hQ (ze B1.out B1.out.size hb)
  have X2 := hQ (zb X1.out hb)
  have B3 := hQ (B2.out.alloc B2.out.size (.cells #[.int .i64 6, .int .i64 0, .slice none 0 0, .slice none 0 0, .int .i64 a, .int .i64 0, .int .u16 v, .int .u16 0, .int .u16 0, .int .i64 0, .int .i64 0, .bool false, .int .i64 0, .slice none 0 0] 41))
  have X3 := hQ (zg X2.out (.cells #[.int .i64 6, .int .i64 0, .slice none 0 0, .slice none 0 0, .int .i64 a, .int .i64 0, .int .u16 v, .int .u16 0, .int .u16 0, .int .i64 0, .int .i64 0, .bool false, .int .i64 0, .slice none 0 0] 41))
  have Y3 := hQ (zi w2 (.cells #[.int .i64 6, .int .i64 0, .slice none 0 0, .slice none 0 0, .int .i64 a, .int .i64 0, .int .u16 v, .int .u16 0, .int .u16 0, .int .i64 0, .int .i64 0, .bool false, .int .i64 0, .slice none 0 0] 41))
  clear hb
  go_wp2_with (fail)
  refine (zaQ _ a v (by omega)).mono ?_
  rintro e w4 ⟨rfl, hb⟩
  have B4 := hQ (ze B3.out B3.out.size hb)
  have X4 := hQ (zb X3.out hb)
  have Y4 := hQ (zb Y3.out hb)
  have S2 := hQ (zF X2.out)
  clear hb
  obtain ⟨x0, x1, x2, x3, x4, x5, x6, x7, x8, x9, x10, x11, x12, x13⟩ := yn X4.out
  obtain ⟨y0, y1, y2, y3, y4, y5, y6, y7, y8, y9, y10, y11, y12, y13⟩ := yn Y4.out
  have fx : ∀ i, w4.frozen? ⟨w.heap.size, i, none⟩ = false := fun i => zh X4.out i
  go_wp2
  refine bodyPost_ret (v := .tuple #[.agg #[.int .i64 6, .int .i64 0, .slice none 0 0, .slice none 0 0, .int .i64 a, .int .i64 0, .int .u16 v, .int .u16 0, .int .u16 0, .int .i64 0, .int .i64 0, .bool false, .int .i64 0, .slice none 0 0], .int .i64 0]) ?_ rfl ⟨rfl, B4.out.trans ?_⟩
  · simp [results, Tryz.results19, go_sem, hu41, x0, x1, x2, x3, x4, x5, x6, x7, x8, x9, x10, x11, x12, x13]
  · (repeat (with_reducible first | exact Below.refl _ _ | (refine jc ?_ (by omega))))
theorem zah (w : World) (g0 c : Nat) (x nn : Int) (hx : 0 ≤ x ∧ x < 65536) (hC : Kd.C (Kd.int .u8) w (some ⟨g0, 0, none⟩) 4 [3, 2, x / 256 % 256, x % 256]) (hc : 4 ≤ c) :
    Calls Tryz.prog 19 #[.slice (some ⟨g0, 0, none⟩) 4 c, .int .i64 nn] w fun e w' => ∃ A k, e = .returned (.tuple #[zT 3 0 (.slice A 1 k) 0 0, .int .i64 0]) ∧ Kd.R (Kd.int .u16) 33 w' w.heap.size (fun _ => True) (.slice A 1 k) [x] ∧ Below w.heap.size w w' := by
  have hu41 := Tryz.underlying41
  have i0 := Ring.C_cell hC rfl 0 3 rfl
  have hg : g0 < w.heap.size := World.block_lt_of_cell? _ _ i0
  have B1 := hQ (show Below w.heap.size w (w.alloc (.cells zY 41)) from (Below.refl _ _).alloc (Nat.le_refl _) _)
  have X1 := hQ (zi w (.cells zY 41))
  have C1 := hQ (Kd.zz hC B1.out)
  have HC := hQ hc
  have hH := WR _ g0 c x nn hx C1.out HC.out
  clear hC hc
  simp only [zT, zI, zY] at B1 X1 C1 hH ⊢
  go_enter Tryz.func19, Tryz.ntmps19
  go_wp2_with (fail)
  refine hH.mono ?_
  rintro e w2 ⟨A3, k3, rfl, hr, hb⟩
  have B2 := hQ (ze B1.out B1.out.size hb)
  have X2 := hQ (zb X1.out hb)
  have R2 := hQ (Kd.zU hr B1.out.size)
  clear hr
  have B3 := hQ (B2.out.alloc B2.out.size (.cells #[.int .i64 3, .int .i64 0, .slice none 0 0, .slice A3 1 k3, .int .i64 0, .int .i64 0, .int .u16 0, .int .u16 0, .int .u16 0, .int .i64 0, .int .i64 0, .bool false, .int .i64 0, .slice none 0 0] 41))
  have X3 := hQ (zg X2.out (.cells #[.int .i64 3, .int .i64 0, .slice none 0 0, .slice A3 1 k3, .int .i64 0, .int .i64 0, .int .u16 0, .int .u16 0, .int .u16 0, .int .i64 0, .int .i64 0, .bool false, .int .i64 0, .slice none 0 0] 41))
  have Y3 := hQ (zi w2 (.cells #[.int .i64 3, .int .i64 0, .slice none 0 0, .slice A3 1 k3, .int .i64 0, .int .i64 0, .int .u16 0, .int .u16 0, .int .u16 0, .int .i64 0, .int .i64 0, .bool false, .int .i64 0, .slice none 0 0] 41))
  clear hb
  go_wp2_with (fail)
  refine (Ji _ A3 1 k3 (by decide)).mono ?_
  rintro e w4 ⟨rfl, hb⟩
  have B4 := hQ (ze B3.out B3.out.size hb)
  have X4 := hQ (zb X3.out hb)
  have Y4 := hQ (zb Y3.out hb)
  have R4 := hQ (Kd.zy (Kd.xO R2.out _) hb)
  have S2 := hQ (zF X2.out)
  clear hb
  obtain ⟨x0, x1, x2, x3, x4, x5, x6, x7, x8, x9, x10, x11, x12, x13⟩ := yn X4.out
  obtain ⟨y0, y1, y2, y3, y4, y5, y6, y7, y8, y9, y10, y11, y12, y13⟩ := yn Y4.out
  have fx : ∀ i, w4.frozen? ⟨w.heap.size, i, none⟩ = false := fun i => zh X4.out i
  go_wp2
  refine bodyPost_ret (v := .tuple #[.agg #[.int .i64 3, .int .i64 0, .slice none 0 0, .slice A3 1 k3, .int .i64 0, .int .i64 0, .int .u16 0, .int .u16 0, .int .u16 0, .int .i64 0, .int .i64 0, .bool false, .int .i64 0, .slice none 0 0], .int .i64 0]) ?_ rfl ⟨A3, k3, rfl, ?_, B4.out.trans ?_⟩
  · simp [results, Tryz.results19, go_sem, hu41, x0, x1, x2, x3, x4, x5, x6, x7, x8, x9, x10, x11, x12, x13]
  · refine RT.r (b1 := w.heap.size) (b2 := w.heap.size) ?_
    repeat (with_reducible first | exact RT.mk' R4.out X4.out X4.out | (refine RT.set ?_ (Or.inl rfl)))
  · (repeat (with_reducible first | exact Below.refl _ _ | (refine jc ?_ (by omega))))
theorem WE (w : World) (g0 c : Nat) (x y nn : Int) (hx : 0 ≤ x ∧ x < 65536) (hy : 0 ≤ y ∧ y < 65536) (hC : Kd.C (Kd.int .u8) w (some ⟨g0, 0, none⟩) 6 [3, 4, x / 256 % 256, x % 256, y / 256 % 256, y % 256]) (hc : 6 ≤ c) :
    Calls Tryz.prog 19 #[.slice (some ⟨g0, 0, none⟩) 6 c, .int .i64 nn] w fun e w' => ∃ A k, e = .returned (.tuple #[zT 3 0 (.slice A 2 k) 0 0, .int .i64 0]) ∧ Kd.R (Kd.int .u16) 33 w' w.heap.size (fun _ => True) (.slice A 2 k) [x, y] ∧ Below w.heap.size w w' := by
  have hu41 := Tryz.underlying41
  have i0 := Ring.C_cell hC rfl 0 3 rfl
  have hg : g0 < w.heap.size := World.block_lt_of_cell? _ _ i0
  have B1 := hQ (show Below w.heap.size w (w.alloc (.cells zY 41)) from (Below.refl _ _).alloc (Nat.le_refl _) _)
  have X1 := hQ (zi w (.cells zY 41))
  have C1 := hQ (Kd.zz hC B1.out)
  have HC := hQ hc
  have hH := WH _ g0 c x y nn hx hy C1.out HC.out
  clear hC hc
  simp only [zT, zI, zY] at B1 X1 C1 hH ⊢
  go_enter Tryz.func19, Tryz.ntmps19
  go_wp2_with (fail)
  refine hH.mono ?_
  rintro e w2 ⟨A3, k3, rfl, hr, hb⟩
  have B2 := hQ (ze B1.out B1.out.size hb)
  have X2 := hQ (zb X1.out hb)
  have R2 := hQ (Kd.zU hr B1.out.size)
  clear hr
  have B3 := hQ (B2.out.alloc B2.out.size (.cells #[.int .i64 3, .int .i64 0, .slice none 0 0, .slice A3 2 k3, .int .i64 0, .int .i64 0, .int .u16 0, .int .u16 0, .int .u16 0, .int .i64 0, .int .i64 0, .bool false, .int .i64 0, .slice none 0 0] 41))
  have X3 := hQ (zg X2.out (.cells #[.int .i64 3, .int .i64 0, .slice none 0 0, .slice A3 2 k3, .int .i64 0, .int .i64 0, .int .u16 0, .int .u16 0, .int .u16 0, .int .i64 0, .int .i64 0, .bool false, .int .i64 0, .slice none 0 0] 41))
  have Y3 := hQ (zi w2 (.cells #[.int .i64 3, .int .i64 0, .slice none 0 0, .slice A3 2 k3, .int .i64 0, .int .i64 0, .int .u16 0, .int .u16 0, .int .u16 0, .int .i64 0, .int .i64 0, .bool false, .int .i64 0, .slice none 0 0] 41))
  clear hb
  go_wp2_with (fail)
  refine (Ji _ A3 2 k3 (by decide)).mono ?_
  rintro e w4 ⟨rfl, hb⟩
  have B4 := hQ (ze B3.out B3.out.size hb)
  have X4 := hQ (zb X3.out hb)
  have Y4 := hQ (zb Y3.out hb)
  have R4 := hQ (Kd.zy (Kd.xO R2.out _) hb)
  have S2 := hQ (zF X2.out)
  clear hb
  obtain ⟨x0, x1, x2, x3, x4, x5, x6, x7, x8, x9, x10, x11, x12, x13⟩ := yn X4.out
  obtain ⟨y0, y1, y2, y3, y4, y5, y6, y7, y8, y9, y10, y11, y12, y13⟩ := yn Y4.out
  have fx : ∀ i, w4.frozen? ⟨w.heap.size, i, none⟩ = false := fun i => zh X4.out i
  go_wp2
  refine bodyPost_ret (v := .tuple #[.agg #[.int .i64 3, .int .i64 0, .slice none 0 0, .slice A3 2 k3, .int .i64 0, .int .i64 0, .int .u16 0, .int .u16 0, .int .u16 0, .int .i64 0, .int .i64 0, .bool false, .int .i64 0, .slice none 0 0], .int .i64 0]) ?_ rfl ⟨A3, k3, rfl, ?_, B4.out.trans ?_⟩
  · simp [results, Tryz.results19, go_sem, hu41, x0, x1, x2, x3, x4, x5, x6, x7, x8, x9, x10, x11, x12, x13]
  · refine RT.r (b1 := w.heap.size) (b2 := w.heap.size) ?_
    repeat (with_reducible first | exact RT.mk' R4.out X4.out X4.out | (refine RT.set ?_ (Or.inl rfl)))
  · (repeat (with_reducible first | exact Below.refl _ _ | (refine jc ?_ (by omega))))
open Go.Proofs.YtlalbohhopmpdaaGreat.Tiny
open Go.Proofs.YtlalbohhopmpdaaGreat.Ring (yM yw yN xZ)
open Go.Proofs.YtlalbohhopmpdaaGreat.LemHeadTop Go.Proofs.YtlalbohhopmpdaaGreat.LemAduTop
theorem xq {w : World} {g t : Nat} {v0 v1 v2 : Value} (h : w.heap[g]? = some (.cells #[v0, v1, v2] t (0, 0))) : w.cell? ⟨g, 0, none⟩ = some v0 ∧ w.cell? ⟨g, 1, none⟩ = some v1 ∧ w.cell? ⟨g, 2, none⟩ = some v2 := ⟨za h 0, za h 1, za h 2⟩
def Zd (fn exc : Int) (lw : List Int) (ra rv nn : Int) (bl : List Int) : Prop := ∀ (w1 : World) (g0 c : Nat), Kd.C (Kd.int .u8) w1 (some ⟨g0, 0, none⟩) bl.length bl → bl.length ≤ c →
  Calls Tryz.prog 19 #[.slice (some ⟨g0, 0, none⟩) bl.length c, .int .i64 nn] w1 fun e w' => ∃ A k, e = .returned (.tuple #[zT fn exc (.slice A lw.length k) ra rv, .int .i64 0]) ∧ Kd.R (Kd.int .u16) 33 w' w1.heap.size (fun _ => True) (.slice A lw.length k) lw ∧ Below w1.heap.size w1 w'
structure Xl (B N : Nat) (x : Ix) (g : Sg) (tb gb dk n : Nat) (L : Nat → Nat → Nat) (k : Int) (v : Value) (l : List Int) (w0 W : World) (b : Nat) : Prop where
  tk : xk W B N x g tb gb dk n L k
  ch : Ch TT (MS x) B w0 W
  le : B ≤ w0.heap.size
  r : Kd.R (Kd.int .u16) 33 W w0.heap.size (fun _ => True) v l
  t : ∃ cs f, W.heap[b]? = some (.cells cs 41 f)
  n : w0.heap.size ≤ b
theorem Xl.set {B N : Nat} {x : Ix} {g : Sg} {tb gb dk n : Nat} {L : Nat → Nat → Nat} {k : Int} {v u : Value} {l : List Int} {w0 W : World} {b j : Nat} (h : Xl B N x g tb gb dk n L k v l w0 W b) : Xl B N x g tb gb dk n L k v l w0 (W.setCell ⟨b, j, none⟩ u) b := by
  obtain ⟨cs, f, e⟩ := h.t
  have hB : B ≤ b := Nat.le_trans h.le h.n
  have hc : Ch [41] [] B W (W.setCell ⟨b, j, none⟩ u) := Ch.set (T := [41]) (M := []) e (by decide) hB (fun m hm => (by cases hm)) u
  refine ⟨⟨hc.cell h.tk.blk (by decide), h.tk.gt.chT hc (by decide), h.tk.le⟩, h.ch.setNew h.n h.le, h.le, hc.R h.r (by decide), ?_, h.n⟩
  have hlt := zF e
  have hx := (Array.getElem?_eq_some_iff.1 e).2
  exact ⟨cs.setIfInBounds j u, f, by simp [World.setCell, hlt, Array.getElem_modify, hx]⟩
theorem Xl.drew {B N : Nat} {x : Ix} {g : Sg} {tb gb dk n : Nat} {L : Nat → Nat → Nat} {k : Int} {v : Value} {l : List Int} {w0 W : World} {b : Nat} (h : Xl B N x g tb gb dk n L k v l w0 W b) : Xl B N x g tb gb dk n L k v l w0 W.drew b := by
  have hb : Below W.heap.size W W.drew := zk (Below.refl _ _)
  obtain ⟨cs, f, e⟩ := h.t
  exact ⟨h.tk.below hb, h.ch.thenBelow hb h.le, h.le, Kd.zy h.r hb, ⟨cs, f, zb e hb⟩, h.n⟩
theorem vE (w : World) (B N N' : Nat) (x : Ix) (g g' : Sg) (tb gb dk n : Nat) (L : Nat → Nat → Nat) (k : Int) (h : xk w B N x g tb gb dk n L k) (hk : 0 ≤ k ∧ k < 1000) (c : Nat) (hc : c < n) (fn at_ nn v : Int) (p bl : List Int) (hp5 : p.length = 5) (hp8 : B8 p) (hfr : Zc #[.int .i64 fn, .int .i64 at_, .int .i64 nn, .int .u16 v, .int .u16 0, .int .u16 0, .slice none 0 0, .slice none 0 0, .int .i64 0, .int .i64 0, .int .i64 0, .int .i64 0] (k + 1) c (hb (k + 1) 6 c ++ p)) (hS : jT B N N' x g g' c p bl) (hOk : Ok (k + 1) ((bl.length : Int) + 1) c) (hbl8 : B8 bl) (exc : Int) (lw : List Int) (ra rv : Int) (hP : Zd fn exc lw ra rv nn bl) :
    Calls Tryz.prog 10 #[.pointer (some ⟨tb, 0, none⟩), .int .i64 (c : Int), .agg #[.int .i64 fn, .int .i64 at_, .int .i64 nn, .int .u16 v, .int .u16 0, .int .u16 0, .slice none 0 0, .slice none 0 0, .int .i64 0, .int .i64 0, .int .i64 0, .int .i64 0]] w fun e w' => ∃ A q, e = .returned (.tuple #[zT fn exc (.slice A lw.length q) ra rv, .bool true]) ∧ Kd.R (Kd.int .u16) 33 w' w.heap.size (fun _ => True) (.slice A lw.length q) lw ∧ xk w' B N' x g' tb gb dk n L (k + 1) ∧ Ch TT (MS x) B w w' := by
  have hu41 := Tryz.underlying41
  have hu37 := Tryz.underlying37
  have hu68 := Tryz.underlying68
  have hu53 := Tryz.underlying53
  have hn3 := h.gt.desk.le
  have hlen2 : (hb (k + 1) ((bl.length : Int) + 1) c ++ bl).length = 7 + bl.length := by rw [List.length_append, xy]
  have hcut : yz.f 9 (hb (k + 1) ((bl.length : Int) + 1) c ++ bl) = some (k + 1, (c : Int), bl, 7 + (bl.length : Int), 0) := by
    have h1 := Xv (k + 1) c bl [] hOk
    rw [List.append_nil] at h1
    rw [Wv _ (by rw [hlen2]; unfold Ok at hOk; omega) (JJ (k + 1) c bl hOk hbl8) (by omega), h1]
  have hbp : 1 ≤ bl.length := by unfold Ok at hOk; omega
  have HC2 := hQ (fun (W : World) (A0 : Option Addr) (c0 : Nat) (hr : Kd.C (Kd.int .u8) W A0 (7 + bl.length) (hb (k + 1) ((bl.length : Int) + 1) c ++ bl)) (h0 : 7 + bl.length ≤ c0) => by
    have h1 := yz.calls 9 A0 c0 (hb (k + 1) ((bl.length : Int) + 1) c ++ bl) (k + 1) c bl (7 + (bl.length : Int)) 0 W (by rw [hlen2]; exact hr) (by rw [hlen2]; exact h0) hcut
    rw [hlen2] at h1
    exact h1)
  have hw1 := je (k + 1) 65536 (by omega)
  have hw2 := je (c : Int) 256 (by omega)
  obtain ⟨W1, hW1⟩ : ∃ W1, W1 = (w.alloc (.cells #[.int .i64 fn, .int .i64 at_, .int .i64 nn, .int .u16 v, .int .u16 0, .int .u16 0, .slice none 0 0, .slice none 0 0, .int .i64 0, .int .i64 0, .int .i64 0, .int .i64 0] 37)).alloc (.cells zY 41) := ⟨_, rfl⟩
  have B1 := hQ (show Below w.heap.size w W1 by rw [hW1]; exact ((Below.refl _ _).alloc (Nat.le_refl _) _).alloc (by simp) _)
  have X1 := hQ (show W1.heap[w.heap.size]? = some (.cells #[.int .i64 fn, .int .i64 at_, .int .i64 nn, .int .u16 v, .int .u16 0, .int .u16 0, .slice none 0 0, .slice none 0 0, .int .i64 0, .int .i64 0, .int .i64 0, .int .i64 0] 37 (0, 0)) by rw [hW1]; exact zg (zi w _) _)
  have Y1 := hQ (show W1.heap[w.heap.size + 1]? = some (.cells zY 41 (0, 0)) by rw [hW1]; exact yx w _ _)
  have T1 := hQ (h.below B1.out)
  have C1 := hQ (h.chb B1.out)
  rw [hW1] at B1 X1 Y1 T1 C1
  have HS := hQ (fun (W : World) (hW : xk W B N x g tb gb dk n L k) => VQ W B N N' x g g' tb gb dk n L k hW hk c hc fn at_ nn v p bl hp5 hp8 hfr hS hOk)
  have HLE := hQ h.gt.slv.lt
  have HP := hQ hP
  have HBP := hQ hbp
  have HW1 := hQ hw1
  have HW2 := hQ hw2
  obtain ⟨ci, hci⟩ : ∃ ci : Int, ci = (c : Int) := ⟨_, rfl⟩
  rw [← hci] at HS HC2 HW2 ⊢
  clear h hk hc hp5 hp8 hfr hS hOk hbl8 hP hn3 hlen2 hcut hbp hw1 hw2 hW1 hci
  simp only [zY, zT, zI, Zd] at B1 X1 Y1 T1 C1 HP ⊢
  obtain ⟨x0, x1, x2, x3, x4, x5, x6, x7, x8, x9, x10, x11⟩ := zW X1.out
  go_enter Tryz.func10, Tryz.ntmps10
  go_wp2_with (fail)
  refine (HS.out _ T1.out).mono ?_
  rintro e w2 ⟨A2, c2, rfl, hcc, hF2, hT2, hC2⟩
  have T2 := hQ hT2
  have C2 := hQ (C1.out.trans hC2)
  have X2 := hQ (hC2.cell X1.out (by decide))
  have Y2 := hQ (hC2.cell Y1.out (by decide))
  have F2 := hQ (Kd.XK hF2)
  have HCC := hQ hcc
  clear hcc hF2 hT2 hC2 x0 x1 x2 x3 x4 x5 x6 x7 x8 x9 x10 x11
  go_wp2_with (fail)
  refine (HC2.out w2 A2 c2 F2.out HCC.out).mono ?_
  rintro e w3 ⟨v0, rfl, hR, hbw⟩
  obtain ⟨A3, c3, rfl⟩ := Kd.zX hR
  have T3 := hQ (T2.out.below hbw)
  have C3 := hQ (C2.out.thenBelow hbw HLE.out)
  have X3 := hQ (zb X2.out hbw)
  have Y3 := hQ (zb Y2.out hbw)
  obtain ⟨g0, cap0, eg, _, _, _⟩ := Kd.xX hR HBP.out
  obtain ⟨rfl, rfl⟩ : A3 = some ⟨g0, 0, none⟩ ∧ c3 = cap0 := by injection eg with h1 h2 h3; exact ⟨h1, h3⟩
  have R3 := hQ (Kd.zw hR)
  clear hR hbw eg
  have hbw : Below w3.heap.size w3 (w3.alloc (.cells #[.int .i64 (k + 1), .int .i64 ci, .slice (some ⟨g0, 0, none⟩) bl.length c3] 68)).drew := zk ((Below.refl _ _).alloc (Nat.le_refl _) _)
  have T4 := hQ (T3.out.below hbw)
  have C4 := hQ (C3.out.thenBelow hbw HLE.out)
  have X4 := hQ (zb X3.out hbw)
  have Y4 := hQ (zb Y3.out hbw)
  have R4 := hQ (Kd.zz R3.out.2.2 hbw)
  have Z4 := hQ (zo (zi w3 (.cells #[.int .i64 (k + 1), .int .i64 ci, .slice (some ⟨g0, 0, none⟩) bl.length c3] 68)))
  clear hbw
  go_wp2_with (fail)
  refine sq_ (ds := []) #[false, false, false, false, false, false, false, false, false, false, false, false, false, false, false, false, false, false, false, false, false, false, false, false, false] (fun w' => w'.cell? ⟨w3.heap.size, 0, none⟩ = some (.int .i64 (k + 1)) ∧ w'.cell? ⟨w3.heap.size, 1, none⟩ = some (.int .i64 ci) ∧ w'.cell? ⟨tb, 1, none⟩ = some (.int .i64 (k + 1))) ⟨za Z4.out 0, za Z4.out 1, za T4.out.blk 1⟩ (fun hHeld => ?_)
  refine pq_ 0 (some 24) ?_
  refine pq_ 1 (some 25) ?_
  refine pq_ 2 (some 26) ?_
  refine pq_ 3 (some 27) ?_
  refine pq_ 4 (some 28) ?_
  refine pq_ 5 (some 29) ?_
  refine pq_ 6 (some 30) ?_
  refine pq_ 7 (some 31) ?_
  refine pq_ 8 (some 32) ?_
  refine pq_ 9 (some 33) ?_
  refine pq_ 11 (some 35) ?_
  refine pq_ 12 (some 36) ?_
  refine pq_ 13 (some 37) ?_
  refine tq_ 10 (some 34) hHeld ?_
  refine tq_ 14 (some 38) hHeld ?_
  refine oq_ 15 (some 39) (fun K hK => ?_)
  refine yo Tryz.func8 (by kernel_rfl) rfl #[.int .i64 (k + 1), .int .i64 65536] (by rfl) rfl rfl (by (try simp only [List.map_toArray, List.map_cons, List.map_nil]); first | done | rfl) ?_
  refine (zG.calls (k + 1) 65536 (k + 1) _ HW1.out).mono ?_
  rintro e w5 ⟨rfl, hd⟩
  have T5 := hQ (T4.out.below hd.below)
  have C5 := hQ (C4.out.thenBelow hd.below HLE.out)
  have X5 := hQ (zb X4.out hd.below)
  have Y5 := hQ (zb Y4.out hd.below)
  have Z5 := hQ (zb Z4.out hd.below)
  have R5 := hQ (Kd.zz R4.out hd.below)
  clear hd
  refine ⟨_, rfl, ?_⟩
  refine hK.out _ _ ⟨za Z5.out 0, za Z5.out 1, za T5.out.blk 1⟩ (fun hHeld => ?_)
  clear hK K
  refine nq_ ?_
  refine pq_ 16 (some 40) ?_
  refine pq_ 17 (some 41) ?_
  refine pq_ 18 (some 42) ?_
  refine pq_ 19 (some 43) ?_
  refine pq_ 21 (some 45) ?_
  refine tq_ 20 (some 44) hHeld ?_
  refine oq_ 22 (some 46) (fun K hK => ?_)
  refine yo Tryz.func8 (by kernel_rfl) rfl #[.int .i64 ci, .int .i64 256] (by rfl) rfl rfl (by (try simp only [List.map_toArray, List.map_cons, List.map_nil]); first | done | rfl) ?_
  refine (zG.calls ci 256 ci _ HW2.out).mono ?_
  rintro e w6 ⟨rfl, hd⟩
  have T6 := hQ (T5.out.below hd.below)
  have C6 := hQ (C5.out.thenBelow hd.below HLE.out)
  have X6 := hQ (zb X5.out hd.below)
  have Y6 := hQ (zb Y5.out hd.below)
  have Z6 := hQ (zb Z5.out hd.below)
  have R6 := hQ (Kd.zz R5.out hd.below)
  clear hd
  refine ⟨_, rfl, ?_⟩
  refine hK.out _ _ ⟨za Z6.out 0, za Z6.out 1, za T6.out.blk 1⟩ (fun hHeld => ?_)
  clear hK K
  refine nq_ ?_
  refine pq_ 23 (some 47) ?_
  refine pq_ 24 (some 48) ?_
  refine xP (by kernel_rfl) ?_

  obtain ⟨f0, f1, f2⟩ := xq Z6.out
  obtain ⟨x0, x1, x2, x3, x4, x5, x6, x7, x8, x9, x10, x11⟩ := zW X6.out
  go_wp2_with (fail)
  refine (HP.out w6 g0 c3 R6.out R3.out.2.1).mono ?_
  rintro e w7 ⟨A6, k6, rfl, hR7, hbw⟩
  have hbw2 : Below w7.heap.size w7 (w7.alloc (.cells #[.int .i64 fn, .int .i64 exc, .slice none 0 0, .slice A6 lw.length k6, .int .i64 ra, .int .i64 0, .int .u16 rv, .int .u16 0, .int .u16 0, .int .i64 0, .int .i64 0, .bool false, .int .i64 0, .slice none 0 0] 41)) := (Below.refl _ _).alloc (Nat.le_refl _) _
  have T7 := hQ ((T6.out.below hbw).below hbw2)
  have C7 := hQ ((C6.out.thenBelow hbw HLE.out).thenBelow hbw2 HLE.out)
  have X7 := hQ (zb (zb X6.out hbw) hbw2)
  have Y7 := hQ (zb (zb Y6.out hbw) hbw2)
  have R7 := hQ (Kd.zy hR7 hbw2)
  have S7 := hQ (zF (zb Y6.out hbw))
  have S6 := hQ C6.out.size
  clear hbw hbw2 hR7 f0 f1 f2 hHeld x0 x1 x2 x3 x4 x5 x6 x7 x8 x9 x10 x11
  obtain ⟨x0, x1, x2, x3, x4, x5, x6, x7, x8, x9, x10, x11⟩ := zW X7.out
  obtain ⟨y0, y1, y2, y3, y4, y5, y6, y7, y8, y9, y10, y11, y12, y13⟩ := yn Y7.out
  have fy : ∀ i, (w7.alloc (.cells #[.int .i64 fn, .int .i64 exc, .slice none 0 0, .slice A6 lw.length k6, .int .i64 ra, .int .i64 0, .int .u16 rv, .int .u16 0, .int .u16 0, .int .i64 0, .int .i64 0, .bool false, .int .i64 0, .slice none 0 0] 41)).frozen? ⟨w.heap.size + 1, i, none⟩ = false := fun i => zh Y7.out i
  have hne1 : w.heap.size + 1 ≠ w7.heap.size := by have := S7.out; omega
  have hne2 : w7.heap.size ≠ w.heap.size + 1 := fun e => hne1 e.symm
  have hne3 : w.heap.size ≠ w7.heap.size := by have := S7.out; omega
  have hfn : (fn == fn) = true := beq_self_eq_true fn
  go_wp2_with (fail)
  go_region
  have L7 : Xl B N' x g' tb gb dk n L (k + 1) (.slice A6 lw.length k6) lw w (w7.alloc (.cells #[.int .i64 fn, .int .i64 exc, .slice none 0 0, .slice A6 lw.length k6, .int .i64 ra, .int .i64 0, .int .u16 rv, .int .u16 0, .int .u16 0, .int .i64 0, .int .i64 0, .bool false, .int .i64 0, .slice none 0 0] 41)) (w.heap.size + 1) := ⟨T7.out, C7.out, HLE.out, Kd.zU R7.out (by have := S6.out; omega), ⟨_, _, Y7.out⟩, by omega⟩
  have HL := hQ L7
  clear L7
  go_wp2
  refine bodyPost_ret (v := .tuple #[.agg #[.int .i64 fn, .int .i64 exc, .slice none 0 0, .slice A6 lw.length k6, .int .i64 ra, .int .i64 0, .int .u16 rv, .int .u16 0, .int .u16 0, .int .i64 0, .int .i64 0, .bool false, .int .i64 0, .slice none 0 0], .bool true]) ?_ rfl ⟨A6, k6, rfl, ?_⟩
  · simp [results, Tryz.results10, go_sem, hu41, y0, y1, y2, y3, y4, y5, y6, y7, y8, y9, y10, y11, y12, y13]
  · have hfin : ∀ W : World, Xl B N' x g' tb gb dk n L (k + 1) (.slice A6 lw.length k6) lw w W (w.heap.size + 1) → Kd.R (Kd.int .u16) 33 W w.heap.size (fun _ => True) (.slice A6 lw.length k6) lw ∧ xk W B N' x g' tb gb dk n L (k + 1) ∧ Ch TT (MS x) B w W := fun W hW => ⟨hW.r, hW.tk, hW.ch⟩
    refine hfin _ ?_
    repeat (with_reducible first | exact HL.out | (refine Xl.set ?_) | (refine Xl.drew ?_))
end Go.Proofs.YtlalbohhopmpdaaGreat.Top
namespace Go.Proofs.YtlalbohhopmpdaaGreat.Top
open Go.RowKit Go.Proofs.YtlalbohhopmpdaaGreat.PTop Go.YW.PrintWords Go.YW.PrintLast Go.YW.PrintMore Go.Proofs.YtlalbohhopmpdaaGreat.Num
open Go.Proofs.YtlalbohhopmpdaaGreat.LemHeadTop Go.Proofs.YtlalbohhopmpdaaGreat.LemAduTop Go.Proofs.YtlalbohhopmpdaaGreat.LemWithinTop Go.Proofs.YtlalbohhopmpdaaGreat.LemAskBTop Go.Proofs.YtlalbohhopmpdaaGreat.LemAskCTop
theorem Vx (a v t u : Int) (ha : 0 ≤ a ∧ a < 256) (hv : 0 ≤ v ∧ v < 65536) (ht : 0 ≤ t ∧ t < 65536) (hu : 0 ≤ u ∧ u < 256) : Zc #[.int .i64 6, .int .i64 a, .int .i64 0, .int .u16 v, .int .u16 0, .int .u16 0, .slice none 0 0, .slice none 0 0, .int .i64 0, .int .i64 0, .int .i64 0, .int .i64 0] t u (hb t 6 u ++ [6, 0, a, v / 256, v % 256]) := by
  have h := zaq a v t u (by omega) hv ht hu
  rw [show a / 256 = 0 by omega, show a % 256 = a by omega] at h
  exact h
theorem Qn (a n t u : Int) (ha : 0 ≤ a ∧ a < 256) (hn : 1 ≤ n ∧ n ≤ 16) (ht : 0 ≤ t ∧ t < 65536) (hu : 0 ≤ u ∧ u < 256) : Zc #[.int .i64 3, .int .i64 a, .int .i64 n, .int .u16 0, .int .u16 0, .int .u16 0, .slice none 0 0, .slice none 0 0, .int .i64 0, .int .i64 0, .int .i64 0, .int .i64 0] t u (hb t 6 u ++ [3, 0, a, 0, n]) := by
  have h := zab a n t u (by omega) (by omega) ht hu
  rw [show a / 256 = 0 by omega, show a % 256 = a by omega, show n / 256 = 0 by omega, show n % 256 = n by omega] at h
  exact h
theorem zaR (a v : Int) (ha : 0 ≤ a ∧ a < 256) (hv : 0 ≤ v ∧ v < 65536) : B8 [6, 0, a, v / 256, v % 256] := by
  intro x hx
  simp only [List.mem_cons, List.not_mem_nil, or_false] at hx
  omega
theorem zcr (a v : Int) (ha : 0 ≤ a ∧ a < 256) (hv : 0 ≤ v ∧ v < 256) : B8 [3, 0, a, 0, v] := by
  intro x hx
  simp only [List.mem_cons, List.not_mem_nil, or_false] at hx
  omega
theorem zck : ∀ (l : List Int), B8 (xU l)
  | [] => fun x hx => by cases hx
  | y :: l => fun x hx => by
    simp only [xU, List.mem_cons] at hx
    rcases hx with rfl | rfl | hx
    · omega
    · omega
    · exact zck l x hx
theorem zak (l : List Int) (h : l.length ≤ 16) : B8 (3 :: 2 * (l.length : Int) :: xU l) := by
  intro x hx
  simp only [List.mem_cons] at hx
  rcases hx with rfl | rfl | hx
  · omega
  · omega
  · exact zck l x hx
theorem zdD : B8 [134, 4] := by
  intro x hx
  simp only [List.mem_cons, List.not_mem_nil, or_false] at hx
  omega
theorem WU (nn : Int) : Zd 6 4 [] 0 0 nn [134, 4] := fun w1 g0 c hC hc => (zb8 w1 g0 c nn hC hc).mono (by rintro e w2 ⟨rfl, hb⟩; exact ⟨none, 0, rfl, Kd.xM _ _ _ _ _, hb⟩)
theorem YU (a v nn : Int) (ha : okA a ∨ a = 100) (ha2 : 0 ≤ a ∧ a < 256) (hv : 0 ≤ v ∧ v < 65536) : Zd 6 0 [] a v nn [6, 0, a, v / 256, v % 256] := fun w1 g0 c hC hc => (zbh w1 g0 c a v nn ha ha2 hv hC hc).mono (by rintro e w2 ⟨rfl, hb⟩; exact ⟨none, 0, rfl, Kd.xM _ _ _ _ _, hb⟩)
theorem QT (x nn : Int) (hx : 0 ≤ x ∧ x < 65536) : Zd 3 0 [x] 0 0 nn (3 :: 2 * (([x] : List Int).length : Int) :: xU [x]) := fun w1 g0 c hC hc => zah w1 g0 c x nn hx hC hc
theorem WT (x y nn : Int) (hx : 0 ≤ x ∧ x < 65536) (hy : 0 ≤ y ∧ y < 65536) : Zd 3 0 [x, y] 0 0 nn (3 :: 2 * (([x, y] : List Int).length : Int) :: xU [x, y]) := fun w1 g0 c hC hc => WE w1 g0 c x y nn hx hy hC hc
end Go.Proofs.YtlalbohhopmpdaaGreat.Top
