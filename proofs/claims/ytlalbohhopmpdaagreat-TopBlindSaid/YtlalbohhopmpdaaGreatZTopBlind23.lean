/- Words and walks for TopBlind (made of the session's own texts; each part by itself). -/
import Derived.Deep.DeepCutAuto
import Derived.Deep.DeepMust
import Derived.Deep.RegionLaw
import Derived.LoopN
import Derived.Test.YtlalbohhopmpdaaGreatZTopBlind12
set_option maxRecDepth 100000
set_option maxHeartbeats 8000000
set_option linter.unusedVariables false
set_option linter.unusedSimpArgs false
namespace Go.Proofs.YtlalbohhopmpdaaGreat.Top
open Go.RowKit Go.Proofs.YtlalbohhopmpdaaGreat.PTop Go.YW.PrintWords Go.YW.PrintLast Go.YW.PrintMore Go.Proofs.YtlalbohhopmpdaaGreat.Num
attribute [local go_sem] zk zo
theorem xK.open0 {w : World} {B : Nat} {v : Value} {q : Int} (h : xK w B v ⟨q, [], []⟩) : ∃ A1 c1 A2 c2, v = .agg #[.int .u64 q, .slice A1 0 c1, .slice A2 0 c2] ∧ Kd.R k78 78 w B (fun _ => True) (.slice A1 0 c1) [] ∧ Kd.R xL 208 w B (fun _ => True) (.slice A2 0 c2) [] := h
theorem xK.openw {w : World} {B : Nat} {v : Value} {q : Int} {rs : List S78} (h : xK w B v ⟨q, rs, []⟩) : ∃ A1 c1 A2 c2, v = .agg #[.int .u64 q, .slice A1 rs.length c1, .slice A2 0 c2] ∧ Kd.R k78 78 w B (fun _ => True) (.slice A1 rs.length c1) rs ∧ Kd.R xL 208 w B (fun _ => True) (.slice A2 0 c2) [] := h
theorem Xe (w : World) (B2 B3 : Nat) (v : Value) (q : Int) (rs : List S78) (hrs : rs.length ≤ 1000) (hv : xK w B2 v ⟨q, rs, []⟩) (A : Option Addr) (c : Nat) (x : yg) (hl : Kd.R xL 208 w B3 (fun _ => True) (.slice A 1 c) [x]) :
    Calls Tryz.prog 236 #[v, .slice A 1 c, .int .i64 2000] w fun e w' => ∃ v', e = .returned (.tuple #[v', .int .i64 0]) ∧ xK w' w.heap.size v' ⟨q, rs, [x]⟩ ∧ Below w.heap.size w w' := by
  obtain ⟨A1, c1, A2, c2, rfl, r1, r2⟩ := hv.openw
  have hu162 := Tryz.underlying162
  have hu208 := Tryz.underlying208
  have hu155 := Tryz.underlying155
  obtain ⟨g0, cap0, e0, _, _, _⟩ := Kd.qm hl (by simp)
  obtain ⟨rfl, rfl⟩ : A = some ⟨g0, 0, none⟩ ∧ c = cap0 := by injection e0 with h1 h2 h3; exact ⟨h1, h3⟩
  obtain ⟨W0, hW0⟩ : ∃ W0, W0 = (w.alloc (.cells #[.int .u64 q, .slice A1 rs.length c1, .slice A2 0 c2] 162)).alloc (.cells #[.int .u64 0, .slice none 0 0, .slice none 0 0] 162) := ⟨_, rfl⟩
  have B0 := hQ (show Below w.heap.size w W0 by rw [hW0]; exact ((Below.refl _ _).alloc (Nat.le_refl _) _).alloc (by simp) _)
  have HSZ := hQ (show w.heap.size + 2 ≤ W0.heap.size by rw [hW0]; simp)
  have Z0 := hQ (show W0.heap[w.heap.size + 1]? = some (.cells #[.int .u64 0, .slice none 0 0, .slice none 0 0] 162 (0, 0)) by rw [hW0]; have h := zi (w.alloc (.cells #[.int .u64 q, .slice A1 rs.length c1, .slice A2 0 c2] 162)) (.cells #[.int .u64 0, .slice none 0 0, .slice none 0 0] 162); rw [show (w.alloc (.cells #[.int .u64 q, .slice A1 rs.length c1, .slice A2 0 c2] 162)).heap.size = w.heap.size + 1 by simp] at h; exact h)
  have V0 := hQ (show xK W0 B2 (.agg #[.int .u64 q, .slice A1 rs.length c1, .slice A2 0 c2]) ⟨q, rs, []⟩ from ⟨A1, c1, A2, c2, rfl, Kd.zz r1 B0.out, Kd.zz r2 B0.out⟩)
  have L0 := hQ (Kd.zz hl B0.out)
  have HRS := hQ hrs
  clear hv r1 r2 hl hrs e0
  go_enter Tryz.func236, Tryz.ntmps236
  go_wp2_with (fail)
  rw [← hW0]
  clear hW0
  refine (Jp W0 B2 _ ⟨q, rs, []⟩ V0.out HRS.out (by simp)).mono ?_
  rintro e w1 ⟨v1, rfl, hv1, hb⟩
  obtain ⟨A3, c3, A4, c4, rfl, r3, r4⟩ := hv1.openw
  have hb1 : Below w1.heap.size w1 (w1.alloc (.cells #[.int .u64 q, .slice A3 rs.length c3, .slice A4 0 c4] 162)) := (Below.refl _ _).alloc (Nat.le_refl _) _
  obtain ⟨g1, hg1⟩ : ∃ g1, g1 = w1.heap.size := ⟨_, rfl⟩
  have HG3 := hQ (show W0.heap.size ≤ g1 ∧ w.heap.size + 2 ≤ g1 by rw [hg1]; exact ⟨hb.size, Nat.le_trans HSZ.out hb.size⟩)
  have B2_ := hQ (zf (zf B0.out B0.out.size hb) (Nat.le_trans B0.out.size hb.size) hb1)
  have Z2 := hQ (zb (zb Z0.out hb) hb1)
  have T2 := hQ (show (w1.alloc (.cells #[.int .u64 q, .slice A3 rs.length c3, .slice A4 0 c4] 162)).heap[g1]? = some (.cells #[.int .u64 q, .slice A3 rs.length c3, .slice A4 0 c4] 162 (0, 0)) by rw [hg1]; exact zi w1 (.cells #[.int .u64 q, .slice A3 rs.length c3, .slice A4 0 c4] 162))
  have R3 := hQ (Kd.zz r3 hb1)
  have R4 := hQ (Kd.zz r4 hb1)
  have L2 := hQ (Kd.zz (Kd.zz L0.out hb) hb1)
  clear hb hb1 hv1 r3 r4 Z0 L0
  go_wp2_with (fail)
  rw [← hg1]
  generalize hW2 : w1.alloc (.cells #[.int .u64 q, .slice A3 rs.length c3, .slice A4 0 c4] 162) = W2 at *
  clear hW2 hg1
  obtain ⟨ad, ea, h50, h51, h52⟩ := kz (Kd.zB L2.out).2.2 0 (by decide) (by simp)
  cases ea
  have i0 : W2.cell? ⟨g0, 0, none⟩ = some (.int .i64 x.f0.f0) := h50
  have i1 : W2.cell? ⟨g0, 1, none⟩ = some (.int .i64 x.f0.f1) := h51
  have i2 : W2.cell? ⟨g0, 2, none⟩ = some (.int .u16 x.f1) := h52
  clear h50 h51 h52
  refine wp_loop_rounds 2 ?_
  rw [rounds_succ]
  have hb4 : Below W2.heap.size W2 (W2.alloc (.cells #[.int .i64 x.f0.f0, .int .i64 x.f0.f1, .int .u16 x.f1] 208)) := (Below.refl _ _).alloc (Nat.le_refl _) _
  have s2 : (W2.alloc (.cells #[.int .i64 x.f0.f0, .int .i64 x.f0.f1, .int .u16 x.f1] 208)).cell? ⟨g1, 2, none⟩ = some (.slice A4 0 c4) := za (zb T2.out hb4) 2
  have B4 := hQ (zf B2_.out B2_.out.size hb4)
  have Z4 := hQ (zb Z2.out hb4)
  have T4 := hQ (zb T2.out hb4)
  have R34 := hQ (Kd.zz R3.out hb4)
  clear hb4
  go_wp2_with (fail)
  refine (zcc _ A4 c4 x).mono ?_
  rintro e w5 ⟨A6, c6, rfl, hr, hb⟩
  have R6 := hQ hr
  have B5 := hQ (zf B4.out B4.out.size hb)
  have Z5 := hQ (zb Z4.out hb)
  have T5 := hQ (zb T4.out hb)
  have R35 := hQ (Kd.zz R34.out hb)
  have u2 : w5.cell? ⟨g1, 2, none⟩ = some (.slice A4 0 c4) := za T5.out 2
  have f2 : w5.frozen? ⟨g1, 2, none⟩ = false := zh T5.out 2
  clear hb hr s2
  have B7 := hQ (show Below w.heap.size w (w5.setCell ⟨g1, 2, none⟩ (.slice A6 1 c6)) from B5.out.setCell (show w.heap.size ≤ g1 by have := HG3.out; omega) _)
  have T7 := hQ (blk_set T5.out 2 (.slice A6 1 c6))
  have Z7 := hQ (show (w5.setCell ⟨g1, 2, none⟩ (.slice A6 1 c6)).heap[w.heap.size + 1]? = some (.cells #[.int .u64 0, .slice none 0 0, .slice none 0 0] 162 (0, 0)) from (Below.heap_setCell w5 ⟨g1, 2, none⟩ _ _ (show w.heap.size + 1 ≠ g1 by have := HG3.out; omega)).trans Z5.out)
  have R67 := hQ (Kd.Zh R6.out T5.out (by decide) 2 (.slice A6 1 c6))
  have R37 := hQ (Kd.Zh R35.out T5.out (by decide) 2 (.slice A6 1 c6))
  go_wp2_with (fail)
  clear u2 f2
  generalize w5.setCell ⟨g1, 2, none⟩ (.slice A6 1 c6) = W7 at *
  have k0 : W7.cell? ⟨g1, 0, none⟩ = some (.int .u64 q) := za T7.out 0
  have k1 : W7.cell? ⟨g1, 1, none⟩ = some (.slice A3 rs.length c3) := za T7.out 1
  have k2 : W7.cell? ⟨g1, 2, none⟩ = some (.slice A6 1 c6) := za T7.out 2
  have z0 : W7.cell? ⟨w.heap.size + 1, 0, none⟩ = some (.int .u64 0) := za Z7.out 0
  have z1 : W7.cell? ⟨w.heap.size + 1, 1, none⟩ = some (.slice none 0 0) := za Z7.out 1
  have z2 : W7.cell? ⟨w.heap.size + 1, 2, none⟩ = some (.slice none 0 0) := za Z7.out 2
  have j0 : W7.frozen? ⟨w.heap.size + 1, 0, none⟩ = false := zh Z7.out 0
  have j1 : W7.frozen? ⟨w.heap.size + 1, 1, none⟩ = false := zh Z7.out 1
  have j2 : W7.frozen? ⟨w.heap.size + 1, 2, none⟩ = false := zh Z7.out 2
  rw [rounds_succ]
  go_wp2
  refine bodyPost_ret (v := .tuple #[.agg #[.int .u64 q, .slice A3 rs.length c3, .slice A6 1 c6], .int .i64 0]) ?_ rfl ?_
  · simp [results, Tryz.results236, go_sem, hu162, z0, z1, z2]
  have hz : ∀ i, i ≠ w.heap.size + 1 → i ≠ w.heap.size + 1 → (((W7.setCell ⟨w.heap.size + 1, 0, none⟩ (.int .u64 q)).setCell ⟨w.heap.size + 1, 1, none⟩ (.slice A3 rs.length c3)).setCell ⟨w.heap.size + 1, 2, none⟩ (.slice A6 1 c6)).heap[i]? = W7.heap[i]? := fun i h1 h2 => by
    rw [Below.heap_setCell _ _ _ i h2, Below.heap_setCell _ _ _ i h2, Below.heap_setCell _ _ _ i h2]
  exact ⟨_, rfl, ⟨A3, c3, A6, c6, rfl, Kd.zU (qN hz Z7.out Z7.out (by decide) R37.out) B0.out.size, Kd.zU (qN hz Z7.out Z7.out (by decide) R67.out) B4.out.size⟩, ((B7.out.setCell (Nat.le_succ _) _).setCell (Nat.le_succ _) _).setCell (Nat.le_succ _) _⟩
end Go.Proofs.YtlalbohhopmpdaaGreat.Top
