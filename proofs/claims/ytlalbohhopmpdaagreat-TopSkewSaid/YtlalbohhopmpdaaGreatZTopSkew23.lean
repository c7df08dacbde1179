/- Words and walks for TopSkew (made of the session's own texts; each part by itself). -/
import Derived.Deep.DeepCutAuto
import Derived.Deep.DeepMust
import Derived.Deep.RegionLaw
import Derived.LoopN
import Derived.Test.YtlalbohhopmpdaaGreatZTopSkew11
set_option maxRecDepth 100000
set_option maxHeartbeats 8000000
set_option linter.unusedVariables false
set_option linter.unusedSimpArgs false
namespace Go.Proofs.YtlalbohhopmpdaaGreat.Top
open Go.RowKit Go.Proofs.YtlalbohhopmpdaaGreat.PTop Go.YW.PrintWords Go.YW.PrintLast Go.YW.PrintMore Go.Proofs.YtlalbohhopmpdaaGreat.Num
attribute [local go_sem] zm zu
theorem xH.open0 {w : World} {B : Nat} {v : Value} {q : Int} (h : xH w B v ⟨q, [], []⟩) : ∃ A1 c1 A2 c2, v = .agg #[.int .u64 q, .slice A1 0 c1, .slice A2 0 c2] ∧ Kd.R k78 78 w B (fun _ => True) (.slice A1 0 c1) [] ∧ Kd.R qp 208 w B (fun _ => True) (.slice A2 0 c2) [] := h
theorem XP (w : World) (B N st mst B2 : Nat) (s : SS) (h : yP w B N st mst s) (hs : ky s.ch) (v : Value) (q : Int) (hv : xH w B2 v ⟨q, [], []⟩) (t a b : Int) (ht : 0 ≤ t ∧ t < 4) (ha : 0 ≤ a ∧ a < b ∧ b ≤ 65536) (n : Nat) (hn : (n : Int) = b - a) :
    Calls Tryz.prog 231 #[.pointer (some ⟨st, 0, none⟩), v, .agg #[.int .i64 t, .int .i64 a, .int .i64 b], .int .i64 500] w fun e w' => ∃ v' A c, e = .returned (.tuple #[v', .slice A n c, .int .i64 0]) ∧ xH w' w.heap.size v' ⟨q, [⟨t, a, b⟩], []⟩ ∧ Kd.R (Kd.int .u16) 33 w' w.heap.size (fun _ => True) (.slice A n c) (jb s.ch t a q n) ∧ Below w.heap.size w w' := by
  obtain ⟨A1, c1, A2, c2, rfl, r1, r2⟩ := hv.open0
  have hu162 := Tryz.underlying162
  have hu78 := Tryz.underlying78
  have hu25 := Tryz.underlying25
  obtain ⟨W0, hW0⟩ : ∃ W0, W0 = ((w.alloc (.cells #[.int .u64 q, .slice A1 0 c1, .slice A2 0 c2] 162)).alloc (.cells #[.int .i64 t, .int .i64 a, .int .i64 b] 78)).alloc (.cells #[.int .u64 0, .slice none 0 0, .slice none 0 0] 162) := ⟨_, rfl⟩
  have B0 := hQ (show Below w.heap.size w W0 by rw [hW0]; exact (((Below.refl _ _).alloc (Nat.le_refl _) _).alloc (by simp) _).alloc (by simp; omega) _)
  have HSZ := hQ (show w.heap.size + 3 ≤ W0.heap.size by rw [hW0]; simp)
  have X0 := hQ (show W0.heap[w.heap.size]? = some (.cells #[.int .u64 q, .slice A1 0 c1, .slice A2 0 c2] 162 (0, 0)) by rw [hW0]; exact zg (zg (zi w _) _) _)
  have Y0 := hQ (show W0.heap[w.heap.size + 1]? = some (.cells #[.int .i64 t, .int .i64 a, .int .i64 b] 78 (0, 0)) by rw [hW0]; have h := zi (w.alloc (.cells #[.int .u64 q, .slice A1 0 c1, .slice A2 0 c2] 162)) (.cells #[.int .i64 t, .int .i64 a, .int .i64 b] 78); rw [show (w.alloc (.cells #[.int .u64 q, .slice A1 0 c1, .slice A2 0 c2] 162)).heap.size = w.heap.size + 1 by simp] at h; exact zg h _)
  have Z0 := hQ (show W0.heap[w.heap.size + 1 + 1]? = some (.cells #[.int .u64 0, .slice none 0 0, .slice none 0 0] 162 (0, 0)) by rw [hW0]; have h := zi ((w.alloc (.cells #[.int .u64 q, .slice A1 0 c1, .slice A2 0 c2] 162)).alloc (.cells #[.int .i64 t, .int .i64 a, .int .i64 b] 78)) (.cells #[.int .u64 0, .slice none 0 0, .slice none 0 0] 162); rw [show ((w.alloc (.cells #[.int .u64 q, .slice A1 0 c1, .slice A2 0 c2] 162)).alloc (.cells #[.int .i64 t, .int .i64 a, .int .i64 b] 78)).heap.size = w.heap.size + 1 + 1 by simp] at h; exact h)
  have H0 := hQ (h.below B0.out)
  have V0 := hQ (show xH W0 B2 (.agg #[.int .u64 q, .slice A1 0 c1, .slice A2 0 c2]) ⟨q, [], []⟩ from ⟨A1, c1, A2, c2, rfl, Kd.zy r1 B0.out, Kd.zy r2 B0.out⟩)
  have HS := hQ hs
  have HT := hQ ht
  have HA := hQ ha
  have HN := hQ hn
  have HW := hQ h
  clear h hs ht ha hn hv r1 r2
  go_enter Tryz.func231, Tryz.ntmps231
  go_wp2_with (fail)
  rw [← hW0]
  clear hW0
  refine (QR W0 B2 _ ⟨q, [], []⟩ V0.out (by simp) (by simp)).mono ?_
  rintro e w1 ⟨v1, rfl, hv1, hb⟩
  obtain ⟨A3, c3, A4, c4, rfl, r3, r4⟩ := hv1.open0
  have hb1 : Below w1.heap.size w1 (w1.alloc (.cells #[.int .u64 q, .slice A3 0 c3, .slice A4 0 c4] 162)) := (Below.refl _ _).alloc (Nat.le_refl _) _
  have S1 := hQ hb
  have B1 := hQ (ze B0.out B0.out.size hb)
  have B2_ := hQ (ze B1.out B1.out.size hb1)
  have X2 := hQ (zb (zb X0.out hb) hb1)
  have Y2 := hQ (zb (zb Y0.out hb) hb1)
  have Z2 := hQ (zb (zb Z0.out hb) hb1)
  have T2 := hQ (zi w1 (.cells #[.int .u64 q, .slice A3 0 c3, .slice A4 0 c4] 162 (0, 0)))
  have R3 := hQ (Kd.zy r3 hb1)
  have R4 := hQ (Kd.zy r4 hb1)
  have x2 : (w1.alloc (.cells #[.int .u64 q, .slice A3 0 c3, .slice A4 0 c4] 162)).cell? ⟨w.heap.size, 2, none⟩ = some (.slice A2 0 c2) := za X2.out 2
  have y0 : (w1.alloc (.cells #[.int .u64 q, .slice A3 0 c3, .slice A4 0 c4] 162)).cell? ⟨w.heap.size + 1, 0, none⟩ = some (.int .i64 t) := za Y2.out 0
  have y1 : (w1.alloc (.cells #[.int .u64 q, .slice A3 0 c3, .slice A4 0 c4] 162)).cell? ⟨w.heap.size + 1, 1, none⟩ = some (.int .i64 a) := za Y2.out 1
  have y2 : (w1.alloc (.cells #[.int .u64 q, .slice A3 0 c3, .slice A4 0 c4] 162)).cell? ⟨w.heap.size + 1, 2, none⟩ = some (.int .i64 b) := za Y2.out 2
  clear hb hb1 hv1 r3 r4 X0 Y0 Z0 B1
  go_wp2_with (fail)
  refine (zaZ _ A2 c2 t a b HA.out.2.1).mono ?_
  rintro e w3 ⟨A5, c5, rfl, hr5, hb⟩
  obtain ⟨g1, hg1⟩ : ∃ g1, g1 = w1.heap.size := ⟨_, rfl⟩
  rw [← hg1] at T2 ⊢
  have HG3 := hQ (show W0.heap.size ≤ g1 ∧ w.heap.size + 3 ≤ W0.heap.size by have h2 := S1.out.size; rw [hg1]; exact ⟨h2, HSZ.out⟩)
  have HG1 := hQ (show w.heap.size ≤ g1 by have h1 := B0.out.size; have h2 := S1.out.size; omega)
  have B3 := hQ (ze B2_.out B2_.out.size hb)
  have X3 := hQ (zb X2.out hb)
  have Y3 := hQ (zb Y2.out hb)
  have Z3 := hQ (zb Z2.out hb)
  have T3 := hQ (zb T2.out hb)
  have R5 := hQ hr5
  obtain ⟨g5, cap5, e5, _, _, _⟩ := Kd.xX hr5 (by simp)
  obtain ⟨rfl, rfl⟩ : A5 = some ⟨g5, 0, none⟩ ∧ c5 = cap5 := by injection e5 with h1 h2 h3; exact ⟨h1, h3⟩
  obtain ⟨ad, ea, h50, h51, h52⟩ := Zl (Kd.zw hr5).2.2 0 (by decide) (by simp)
  cases ea
  have i0 : w3.cell? ⟨g5, 0, none⟩ = some (.int .i64 t) := h50
  have i1 : w3.cell? ⟨g5, 1, none⟩ = some (.int .i64 a) := h51
  have i2 : w3.cell? ⟨g5, 2, none⟩ = some (.int .i64 b) := h52
  have R33 := hQ (Kd.zy R3.out hb)
  have R44 := hQ (Kd.zy R4.out hb)
  clear hb hr5 e5 h50 h51 h52 hg1 x2 y0 y1 y2 X2 Y2 Z2 T2
  have t0 : w3.cell? ⟨g1, 0, none⟩ = some (.int .u64 q) := za T3.out 0
  have t1 : w3.cell? ⟨g1, 1, none⟩ = some (.slice A3 0 c3) := za T3.out 1
  have t2 : w3.cell? ⟨g1, 2, none⟩ = some (.slice A4 0 c4) := za T3.out 2
  go_wp2_with (fail)
  refine wp_loop_rounds 2 ?_
  rw [rounds_succ]
  have hb4 : Below w3.heap.size w3 (w3.alloc (.cells #[.int .i64 t, .int .i64 a, .int .i64 b] 78)) := (Below.refl _ _).alloc (Nat.le_refl _) _
  have s1 : (w3.alloc (.cells #[.int .i64 t, .int .i64 a, .int .i64 b] 78)).cell? ⟨g1, 1, none⟩ = some (.slice A3 0 c3) := za (zb T3.out hb4) 1
  have B4 := hQ (ze B3.out B3.out.size hb4)
  have X4 := hQ (zb X3.out hb4)
  have Y4 := hQ (zb Y3.out hb4)
  have Z4 := hQ (zb Z3.out hb4)
  have T4 := hQ (zb T3.out hb4)
  have R43 := hQ (Kd.zy R33.out hb4)
  have R4_ := hQ (Kd.zy R44.out hb4)
  clear hb4
  go_wp2_with (fail)
  refine (Wz _ A3 c3 t a b).mono ?_
  rintro e w5 ⟨A6, c6, rfl, hr, hb⟩
  have R6 := hQ hr
  have B5 := hQ (ze B4.out B4.out.size hb)
  have X5 := hQ (zb X4.out hb)
  have Y5 := hQ (zb Y4.out hb)
  have Z5 := hQ (zb Z4.out hb)
  have T5 := hQ (zb T4.out hb)
  have R5_ := hQ (Kd.zy R4_.out hb)
  have u1 : w5.cell? ⟨g1, 1, none⟩ = some (.slice A3 0 c3) := za T5.out 1
  have f1 : w5.frozen? ⟨g1, 1, none⟩ = false := zh T5.out 1
  clear hb hr s1
  go_wp2_with (fail)
  rw [rounds_succ]
  go_wp2_with (fail)
  have B7 := hQ (show Below w.heap.size w (w5.setCell ⟨g1, 1, none⟩ (.slice A6 1 c6)) from B5.out.setCell HG1.out _)
  have T7 := hQ (xD T5.out 1 (.slice A6 1 c6))
  have hx7 : ∀ {g t : Nat} {cs : Array Value} {y : Nat × Nat}, g ≠ g1 → w5.heap[g]? = some (.cells cs t y) → (w5.setCell ⟨g1, 1, none⟩ (.slice A6 1 c6)).heap[g]? = some (.cells cs t y) := fun hne hg => (Below.heap_setCell w5 ⟨g1, 1, none⟩ _ _ hne).trans hg
  have HGN := hQ (show w.heap.size + 3 ≤ g1 from by
    have h4 := HG3.out
    omega)
  have X7 := hQ (hx7 (by have := HGN.out; omega) X5.out)
  have Y7 := hQ (hx7 (by have := HGN.out; omega) Y5.out)
  have Z7 := hQ (hx7 (by have := HGN.out; omega) Z5.out)
  have R67 := hQ (Kd.vX R6.out T5.out (by decide) 1 (.slice A6 1 c6))
  have R47 := hQ (Kd.vX R5_.out T5.out (by decide) 1 (.slice A6 1 c6))
  clear hx7 u1 f1 t0 t1 t2 i0 i1 i2
  generalize w5.setCell ⟨g1, 1, none⟩ (.slice A6 1 c6) = W7 at *
  have B8 := hQ (B7.out.trans (zk (Below.refl _ _)))
  have S8 := hQ (HW.out.below B8.out)
  have k0 : W7.cell? ⟨g1, 0, none⟩ = some (.int .u64 q) := za T7.out 0
  have k1 : W7.cell? ⟨g1, 1, none⟩ = some (.slice A6 1 c6) := za T7.out 1
  have k2 : W7.cell? ⟨g1, 2, none⟩ = some (.slice A4 0 c4) := za T7.out 2
  have l0 : W7.cell? ⟨w.heap.size, 0, none⟩ = some (.int .u64 q) := za X7.out 0
  have l1 : W7.cell? ⟨w.heap.size, 1, none⟩ = some (.slice A1 0 c1) := za X7.out 1
  have l2 : W7.cell? ⟨w.heap.size, 2, none⟩ = some (.slice A2 0 c2) := za X7.out 2
  have m0 : W7.cell? ⟨w.heap.size + 1, 0, none⟩ = some (.int .i64 t) := za Y7.out 0
  have m1 : W7.cell? ⟨w.heap.size + 1, 1, none⟩ = some (.int .i64 a) := za Y7.out 1
  have m2 : W7.cell? ⟨w.heap.size + 1, 2, none⟩ = some (.int .i64 b) := za Y7.out 2
  go_region_law (first | (go_simp; go_at_call 214; refine (XG _ B N st mst s S8.out HS.out q A1 A2 0 c1 c2 t a b HT.out ⟨HA.out.1, by have := HA.out; omega, HA.out.2.2⟩ n HN.out).mono ?_; rintro e w9 ⟨A9, c9, rfl, hr9, hb⟩; have R9 := hQ hr9; have B9 := hQ (ze B8.out B8.out.size hb); have Z9 := hQ (zb (zb Z7.out (zk (Below.refl _ _))) hb); have R69 := hQ (Kd.zy (Kd.zy R67.out (zk (Below.refl _ _))) hb); have R49 := hQ (Kd.zy (Kd.zy R47.out (zk (Below.refl _ _))) hb); have z0 : w9.cell? ⟨w.heap.size + 1 + 1, 0, none⟩ = some (.int .u64 0) := za Z9.out 0; have z1 : w9.cell? ⟨w.heap.size + 1 + 1, 1, none⟩ = some (.slice none 0 0) := za Z9.out 1; have z2 : w9.cell? ⟨w.heap.size + 1 + 1, 2, none⟩ = some (.slice none 0 0) := za Z9.out 2; have f0 : w9.frozen? ⟨w.heap.size + 1 + 1, 0, none⟩ = false := zh Z9.out 0; have f1 : w9.frozen? ⟨w.heap.size + 1 + 1, 1, none⟩ = false := zh Z9.out 1; have f2 : w9.frozen? ⟨w.heap.size + 1 + 1, 2, none⟩ = false := zh Z9.out 2; have T9 := hQ (zb (zb T7.out (zk (Below.refl _ _))) hb); have n0 : w9.cell? ⟨g1, 0, none⟩ = some (.int .u64 q) := za T9.out 0; have n1 : w9.cell? ⟨g1, 1, none⟩ = some (.slice A6 1 c6) := za T9.out 1; have n2 : w9.cell? ⟨g1, 2, none⟩ = some (.slice A4 0 c4) := za T9.out 2; clear hr9 hb))
  all_goals
    go_wp2
    refine bodyPost_ret (v := .tuple #[.agg #[.int .u64 q, .slice A6 1 c6, .slice A4 0 c4], .slice A9 n c9, .int .i64 0]) ?_ rfl ?_
    · simp [results, Tryz.results231, go_sem, hu162, z0, z1, z2]
    have hz : ∀ i, i ≠ w.heap.size + 1 + 1 → i ≠ w.heap.size + 1 + 1 → (((w9.setCell ⟨w.heap.size + 1 + 1, 0, none⟩ (.int .u64 q)).setCell ⟨w.heap.size + 1 + 1, 1, none⟩ (.slice A6 1 c6)).setCell ⟨w.heap.size + 1 + 1, 2, none⟩ (.slice A4 0 c4)).heap[i]? = w9.heap[i]? := fun i h1 h2 => by
      rw [Below.heap_setCell _ _ _ i h2, Below.heap_setCell _ _ _ i h2, Below.heap_setCell _ _ _ i h2]
    refine ⟨_, A9, c9, rfl, ⟨A6, c6, A4, c4, rfl, Kd.zU (qB hz Z9.out Z9.out (by decide) R69.out) B4.out.size, Kd.zU (qB hz Z9.out Z9.out (by decide) R49.out) B0.out.size⟩, Kd.zU (qB hz Z9.out Z9.out (by decide) R9.out) B8.out.size, ((B9.out.setCell (by simp; omega) _).setCell (by simp; omega) _).setCell (by simp; omega) _⟩
theorem xH.openw {w : World} {B : Nat} {v : Value} {q : Int} {rs : List S78} (h : xH w B v ⟨q, rs, []⟩) : ∃ A1 c1 A2 c2, v = .agg #[.int .u64 q, .slice A1 rs.length c1, .slice A2 0 c2] ∧ Kd.R k78 78 w B (fun _ => True) (.slice A1 rs.length c1) rs ∧ Kd.R qp 208 w B (fun _ => True) (.slice A2 0 c2) [] := h
theorem YI (w : World) (B2 B3 : Nat) (v : Value) (q : Int) (rs : List S78) (hrs : rs.length ≤ 1000) (hv : xH w B2 v ⟨q, rs, []⟩) (A : Option Addr) (c : Nat) (x : xz) (hl : Kd.R qp 208 w B3 (fun _ => True) (.slice A 1 c) [x]) :
    Calls Tryz.prog 236 #[v, .slice A 1 c, .int .i64 2000] w fun e w' => ∃ v', e = .returned (.tuple #[v', .int .i64 0]) ∧ xH w' w.heap.size v' ⟨q, rs, [x]⟩ ∧ Below w.heap.size w w' := by
  obtain ⟨A1, c1, A2, c2, rfl, r1, r2⟩ := hv.openw
  have hu162 := Tryz.underlying162
  have hu208 := Tryz.underlying208
  have hu155 := Tryz.underlying155
  obtain ⟨g0, cap0, e0, _, _, _⟩ := Kd.xX hl (by simp)
  obtain ⟨rfl, rfl⟩ : A = some ⟨g0, 0, none⟩ ∧ c = cap0 := by injection e0 with h1 h2 h3; exact ⟨h1, h3⟩
  obtain ⟨W0, hW0⟩ : ∃ W0, W0 = (w.alloc (.cells #[.int .u64 q, .slice A1 rs.length c1, .slice A2 0 c2] 162)).alloc (.cells #[.int .u64 0, .slice none 0 0, .slice none 0 0] 162) := ⟨_, rfl⟩
  have B0 := hQ (show Below w.heap.size w W0 by rw [hW0]; exact ((Below.refl _ _).alloc (Nat.le_refl _) _).alloc (by simp) _)
  have HSZ := hQ (show w.heap.size + 2 ≤ W0.heap.size by rw [hW0]; simp)
  have Z0 := hQ (show W0.heap[w.heap.size + 1]? = some (.cells #[.int .u64 0, .slice none 0 0, .slice none 0 0] 162 (0, 0)) by rw [hW0]; have h := zi (w.alloc (.cells #[.int .u64 q, .slice A1 rs.length c1, .slice A2 0 c2] 162)) (.cells #[.int .u64 0, .slice none 0 0, .slice none 0 0] 162); rw [show (w.alloc (.cells #[.int .u64 q, .slice A1 rs.length c1, .slice A2 0 c2] 162)).heap.size = w.heap.size + 1 by simp] at h; exact h)
  have V0 := hQ (show xH W0 B2 (.agg #[.int .u64 q, .slice A1 rs.length c1, .slice A2 0 c2]) ⟨q, rs, []⟩ from ⟨A1, c1, A2, c2, rfl, Kd.zy r1 B0.out, Kd.zy r2 B0.out⟩)
  have L0 := hQ (Kd.zy hl B0.out)
  have HRS := hQ hrs
  clear hv r1 r2 hl hrs e0
  go_enter Tryz.func236, Tryz.ntmps236
  go_wp2_with (fail)
  rw [← hW0]
  clear hW0
  refine (QR W0 B2 _ ⟨q, rs, []⟩ V0.out HRS.out (by simp)).mono ?_
  rintro e w1 ⟨v1, rfl, hv1, hb⟩
  obtain ⟨A3, c3, A4, c4, rfl, r3, r4⟩ := hv1.openw
  have hb1 : Below w1.heap.size w1 (w1.alloc (.cells #[.int .u64 q, .slice A3 rs.length c3, .slice A4 0 c4] 162)) := (Below.refl _ _).alloc (Nat.le_refl _) _
  obtain ⟨g1, hg1⟩ : ∃ g1, g1 = w1.heap.size := ⟨_, rfl⟩
  have HG3 := hQ (show W0.heap.size ≤ g1 ∧ w.heap.size + 2 ≤ g1 by rw [hg1]; exact ⟨hb.size, Nat.le_trans HSZ.out hb.size⟩)
  have B2_ := hQ (ze (ze B0.out B0.out.size hb) (Nat.le_trans B0.out.size hb.size) hb1)
  have Z2 := hQ (zb (zb Z0.out hb) hb1)
  have T2 := hQ (show (w1.alloc (.cells #[.int .u64 q, .slice A3 rs.length c3, .slice A4 0 c4] 162)).heap[g1]? = some (.cells #[.int .u64 q, .slice A3 rs.length c3, .slice A4 0 c4] 162 (0, 0)) by rw [hg1]; exact zi w1 (.cells #[.int .u64 q, .slice A3 rs.length c3, .slice A4 0 c4] 162))
  have R3 := hQ (Kd.zy r3 hb1)
  have R4 := hQ (Kd.zy r4 hb1)
  have L2 := hQ (Kd.zy (Kd.zy L0.out hb) hb1)
  clear hb hb1 hv1 r3 r4 Z0 L0
  go_wp2_with (fail)
  rw [← hg1]
  generalize hW2 : w1.alloc (.cells #[.int .u64 q, .slice A3 rs.length c3, .slice A4 0 c4] 162) = W2 at *
  clear hW2 hg1
  obtain ⟨ad, ea, h50, h51, h52⟩ := YC (Kd.zw L2.out).2.2 0 (by decide) (by simp)
  cases ea
  have i0 : W2.cell? ⟨g0, 0, none⟩ = some (.int .i64 x.f0.f0) := h50
  have i1 : W2.cell? ⟨g0, 1, none⟩ = some (.int .i64 x.f0.f1) := h51
  have i2 : W2.cell? ⟨g0, 2, none⟩ = some (.int .u16 x.f1) := h52
  clear h50 h51 h52
  refine wp_loop_rounds 2 ?_
  rw [rounds_succ]
  have hb4 : Below W2.heap.size W2 (W2.alloc (.cells #[.int .i64 x.f0.f0, .int .i64 x.f0.f1, .int .u16 x.f1] 208)) := (Below.refl _ _).alloc (Nat.le_refl _) _
  have s2 : (W2.alloc (.cells #[.int .i64 x.f0.f0, .int .i64 x.f0.f1, .int .u16 x.f1] 208)).cell? ⟨g1, 2, none⟩ = some (.slice A4 0 c4) := za (zb T2.out hb4) 2
  have B4 := hQ (ze B2_.out B2_.out.size hb4)
  have Z4 := hQ (zb Z2.out hb4)
  have T4 := hQ (zb T2.out hb4)
  have R34 := hQ (Kd.zy R3.out hb4)
  clear hb4
  go_wp2_with (fail)
  refine (zbZ _ A4 c4 x).mono ?_
  rintro e w5 ⟨A6, c6, rfl, hr, hb⟩
  have R6 := hQ hr
  have B5 := hQ (ze B4.out B4.out.size hb)
  have Z5 := hQ (zb Z4.out hb)
  have T5 := hQ (zb T4.out hb)
  have R35 := hQ (Kd.zy R34.out hb)
  have u2 : w5.cell? ⟨g1, 2, none⟩ = some (.slice A4 0 c4) := za T5.out 2
  have f2 : w5.frozen? ⟨g1, 2, none⟩ = false := zh T5.out 2
  clear hb hr s2
  have B7 := hQ (show Below w.heap.size w (w5.setCell ⟨g1, 2, none⟩ (.slice A6 1 c6)) from B5.out.setCell (show w.heap.size ≤ g1 by have := HG3.out; omega) _)
  have T7 := hQ (xD T5.out 2 (.slice A6 1 c6))
  have Z7 := hQ (show (w5.setCell ⟨g1, 2, none⟩ (.slice A6 1 c6)).heap[w.heap.size + 1]? = some (.cells #[.int .u64 0, .slice none 0 0, .slice none 0 0] 162 (0, 0)) from (Below.heap_setCell w5 ⟨g1, 2, none⟩ _ _ (show w.heap.size + 1 ≠ g1 by have := HG3.out; omega)).trans Z5.out)
  have R67 := hQ (Kd.vX R6.out T5.out (by decide) 2 (.slice A6 1 c6))
  have R37 := hQ (Kd.vX R35.out T5.out (by decide) 2 (.slice A6 1 c6))
  go_wp2_with (fail)
  clear u2 f2
  generalize w5.setCell ⟨g1, 2, none⟩ (.slice A6 1 c6) = W7 at *
  have k0 : W7.cell? ⟨g1, 0, none⟩ = some (.int .u64 q) := za T7.out 0
  have k1 : W7.cell? ⟨g1, 1, none⟩ = some (.slice A3 rs.length c3) := za T7.out 1
  have k2 : W7.cell? ⟨g1, 2, none⟩ = some (.slice A6 1 c6) := za T7.out 2
  have z0 : W7.cell? ⟨w.heap.size + 1, 0, none⟩ = some (.int .u64 0) := za Z7.out 0
  have z1 : W7.cell? ⟨w.heap.size + 1, 1, none⟩ = some (.slice none 0 0) := za Z7.out 1
  have z2 : W7.cell? ⟨w.heap.size + 1, 2, none⟩ = some (.slice none 0 0) := za Z7.out 2
  have j0 : W7.frozen? ⟨w.heap.size + 1, 0, none⟩ = false := zh Z7.out 0
  have j1 : W7.frozen? ⟨w.heap.size + 1, 1, none⟩ = false := zh Z7.out 1
  have j2 : W7.frozen? ⟨w.heap.size + 1, 2, none⟩ = false := zh Z7.out 2
  rw [rounds_succ]
  go_wp2
  refine bodyPost_ret (v := .tuple #[.agg #[.int .u64 q, .slice A3 rs.length c3, .slice A6 1 c6], .int .i64 0]) ?_ rfl ?_
  · simp [results, Tryz.results236, go_sem, hu162, z0, z1, z2]
  have hz : ∀ i, i ≠ w.heap.size + 1 → i ≠ w.heap.size + 1 → (((W7.setCell ⟨w.heap.size + 1, 0, none⟩ (.int .u64 q)).setCell ⟨w.heap.size + 1, 1, none⟩ (.slice A3 rs.length c3)).setCell ⟨w.heap.size + 1, 2, none⟩ (.slice A6 1 c6)).heap[i]? = W7.heap[i]? := fun i h1 h2 => by
    rw [Below.heap_setCell _ _ _ i h2, Below.heap_setCell _ _ _ i h2, Below.heap_setCell _ _ _ i h2]
  exact ⟨_, rfl, ⟨A3, c3, A6, c6, rfl, Kd.zU (qB hz Z7.out Z7.out (by decide) R37.out) B0.out.size, Kd.zU (qB hz Z7.out Z7.out (by decide) R67.out) B4.out.size⟩, ((B7.out.setCell (Nat.le_succ _) _).setCell (Nat.le_succ _) _).setCell (Nat.le_succ _) _⟩
end Go.Proofs.YtlalbohhopmpdaaGreat.Top
