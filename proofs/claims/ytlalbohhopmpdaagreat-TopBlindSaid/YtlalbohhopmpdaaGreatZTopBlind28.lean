/- Words and walks for TopBlind (made of the session's own texts; each part by itself). -/
import Derived.Deep.DeepCutAuto
import Derived.Deep.DeepMust
import Derived.Deep.RegionLaw
import Derived.LoopN
import Derived.Test.YtlalbohhopmpdaaGreatZTopBlind27
set_option maxRecDepth 100000
set_option maxHeartbeats 8000000
set_option linter.unusedVariables false
set_option linter.unusedSimpArgs false
namespace Go.Proofs.YtlalbohhopmpdaaGreat.Top
open Go.Proofs.YtlalbohhopmpdaaGreat.Tiny
open Go.RowKit Go.Proofs.YtlalbohhopmpdaaGreat.PTop Go.YW.PrintWords Go.YW.PrintLast Go.YW.PrintMore Go.Proofs.YtlalbohhopmpdaaGreat.Num
attribute [local go_sem] zk zo
theorem xK.openN {w : World} {B : Nat} {v : Value} {q : Int} {rs : List S78} {ws : List yg} (h : xK w B v ⟨q, rs, ws⟩) : ∃ A1 c1 A2 c2, v = .agg #[.int .u64 q, .slice A1 rs.length c1, .slice A2 ws.length c2] ∧ Kd.R k78 78 w B (fun _ => True) (.slice A1 rs.length c1) rs ∧ Kd.R xL 208 w B (fun _ => True) (.slice A2 ws.length c2) ws := h
theorem Yp (w : World) (B2 B3 : Nat) (v : Value) (q : Int) (rs : List S78) (ws : List yg) (hws : qD ws) (hwl : ws.length ≤ 900) (hrs : rs.length ≤ 1000) (hv : xK w B2 v ⟨q, rs, ws⟩) (A : Option Addr) (c : Nat) (x : yg) (hx : x.f0.f0 = 2) (hl : Kd.R xL 208 w B3 (fun _ => True) (.slice A 1 c) [x]) :
    Calls Tryz.prog 236 #[v, .slice A 1 c, .int .i64 2000] w fun e w' => ∃ v', e = .returned (.tuple #[v', .int .i64 0]) ∧ xK w' w.heap.size v' ⟨q, rs, xH ws x⟩ ∧ Below w.heap.size w w' := by
  obtain ⟨A1, c1, A2, c2, rfl, r1, r2⟩ := hv.openN
  have hu162 := Tryz.underlying162
  have hu208 := Tryz.underlying208
  have hu155 := Tryz.underlying155
  obtain ⟨g0, cap0, e0, _, _, _⟩ := Kd.qm hl (by simp)
  obtain ⟨rfl, rfl⟩ : A = some ⟨g0, 0, none⟩ ∧ c = cap0 := by injection e0 with h1 h2 h3; exact ⟨h1, h3⟩
  obtain ⟨W0, hW0⟩ : ∃ W0, W0 = (w.alloc (.cells #[.int .u64 q, .slice A1 rs.length c1, .slice A2 ws.length c2] 162)).alloc (.cells #[.int .u64 0, .slice none 0 0, .slice none 0 0] 162) := ⟨_, rfl⟩
  have B0 := hQ (show Below w.heap.size w W0 by rw [hW0]; exact ((Below.refl _ _).alloc (Nat.le_refl _) _).alloc (by simp) _)
  have HSZ := hQ (show w.heap.size + 2 ≤ W0.heap.size by rw [hW0]; simp)
  have Z0 := hQ (show W0.heap[w.heap.size + 1]? = some (.cells #[.int .u64 0, .slice none 0 0, .slice none 0 0] 162 (0, 0)) by rw [hW0]; have h := zi (w.alloc (.cells #[.int .u64 q, .slice A1 rs.length c1, .slice A2 ws.length c2] 162)) (.cells #[.int .u64 0, .slice none 0 0, .slice none 0 0] 162); rw [show (w.alloc (.cells #[.int .u64 q, .slice A1 rs.length c1, .slice A2 ws.length c2] 162)).heap.size = w.heap.size + 1 by simp] at h; exact h)
  have V0 := hQ (show xK W0 B2 (.agg #[.int .u64 q, .slice A1 rs.length c1, .slice A2 ws.length c2]) ⟨q, rs, ws⟩ from ⟨A1, c1, A2, c2, rfl, Kd.zz r1 B0.out, Kd.zz r2 B0.out⟩)
  have L0 := hQ (Kd.zz hl B0.out)
  have HRS := hQ hrs
  have HWS := hQ hws
  have HWL := hQ hwl
  have HX := hQ hx
  clear hws hwl hx hv r1 r2 hl hrs e0
  go_enter Tryz.func236, Tryz.ntmps236
  go_wp2_with (fail)
  rw [← hW0]
  clear hW0
  refine (Jp W0 B2 _ ⟨q, rs, ws⟩ V0.out HRS.out (Nat.le_trans HWL.out (by decide))).mono ?_
  rintro e w1 ⟨v1, rfl, hv1, hb⟩
  obtain ⟨A3, c3, A4, c4, rfl, r3, r4⟩ := hv1.openN
  have hb1 : Below w1.heap.size w1 (w1.alloc (.cells #[.int .u64 q, .slice A3 rs.length c3, .slice A4 ws.length c4] 162)) := (Below.refl _ _).alloc (Nat.le_refl _) _
  obtain ⟨g1, hg1⟩ : ∃ g1, g1 = w1.heap.size := ⟨_, rfl⟩
  have HG3 := hQ (show W0.heap.size ≤ g1 ∧ w.heap.size + 2 ≤ g1 by rw [hg1]; exact ⟨hb.size, Nat.le_trans HSZ.out hb.size⟩)
  have B2_ := hQ (zf (zf B0.out B0.out.size hb) (Nat.le_trans B0.out.size hb.size) hb1)
  have Z2 := hQ (zb (zb Z0.out hb) hb1)
  have T2 := hQ (show (w1.alloc (.cells #[.int .u64 q, .slice A3 rs.length c3, .slice A4 ws.length c4] 162)).heap[g1]? = some (.cells #[.int .u64 q, .slice A3 rs.length c3, .slice A4 ws.length c4] 162 (0, 0)) by rw [hg1]; exact zi w1 (.cells #[.int .u64 q, .slice A3 rs.length c3, .slice A4 ws.length c4] 162))
  have R3 := hQ (Kd.zz r3 hb1)
  have R4 := hQ (Kd.zz r4 hb1)
  have L2 := hQ (Kd.zz (Kd.zz L0.out hb) hb1)
  clear hb hb1 hv1 r3 r4 Z0 L0
  go_wp2_with (fail)
  rw [← hg1]
  generalize hW2 : w1.alloc (.cells #[.int .u64 q, .slice A3 rs.length c3, .slice A4 ws.length c4] 162) = W2 at *
  clear hW2 hg1
  obtain ⟨ad, ea, h50, h51, h52⟩ := kz (Kd.zB L2.out).2.2 0 (by decide) (by simp)
  cases ea
  have i0 : W2.cell? ⟨g0, 0, none⟩ = some (.int .i64 x.f0.f0) := h50
  have i1 : W2.cell? ⟨g0, 1, none⟩ = some (.int .i64 x.f0.f1) := h51
  have i2 : W2.cell? ⟨g0, 2, none⟩ = some (.int .u16 x.f1) := h52
  clear h50 h51 h52
  refine wp_loop_rounds 2 ?_
  rw [rounds_succ]
  have hb4 : Below W2.heap.size W2 (W2.alloc (.cells #[.int .i64 x.f0.f0, .int .i64 x.f0.f1, .int .u16 x.f1] 208)) := (Below.refl _ _).alloc (Nat.le_refl _) _
  have s2 : (W2.alloc (.cells #[.int .i64 x.f0.f0, .int .i64 x.f0.f1, .int .u16 x.f1] 208)).cell? ⟨g1, 2, none⟩ = some (.slice A4 ws.length c4) := za (zb T2.out hb4) 2
  have B4 := hQ (zf B2_.out B2_.out.size hb4)
  have Z4 := hQ (zb Z2.out hb4)
  have T4 := hQ (zb T2.out hb4)
  have R34 := hQ (Kd.zz R3.out hb4)
  have C44 := hQ (Kd.zB (Kd.zz R4.out hb4)).2
  clear hb4
  go_wp2_with (fail)
  refine (zbK _ A4 c4 ws x HX.out C44.out.2 C44.out.1 HWS.out (Nat.le_trans HWL.out (by decide))).mono ?_
  rintro e w5 ⟨A6, c6, rfl, hr, hb⟩
  have R6 := hQ hr
  have B5 := hQ (zf B4.out B4.out.size hb)
  have Z5 := hQ (zb Z4.out hb)
  have T5 := hQ (zb T4.out hb)
  have R35 := hQ (Kd.zz R34.out hb)
  have u2 : w5.cell? ⟨g1, 2, none⟩ = some (.slice A4 ws.length c4) := za T5.out 2
  have f2 : w5.frozen? ⟨g1, 2, none⟩ = false := zh T5.out 2
  clear hb hr s2
  have B7 := hQ (show Below w.heap.size w (w5.setCell ⟨g1, 2, none⟩ (.slice A6 (xH ws x).length c6)) from B5.out.setCell (show w.heap.size ≤ g1 by have := HG3.out; omega) _)
  have T7 := hQ (Go.YW.PrintWords.blk_set T5.out 2 (.slice A6 (xH ws x).length c6))
  have Z7 := hQ (show (w5.setCell ⟨g1, 2, none⟩ (.slice A6 (xH ws x).length c6)).heap[w.heap.size + 1]? = some (.cells #[.int .u64 0, .slice none 0 0, .slice none 0 0] 162 (0, 0)) from (Below.heap_setCell w5 ⟨g1, 2, none⟩ _ _ (show w.heap.size + 1 ≠ g1 by have := HG3.out; omega)).trans Z5.out)
  have R67 := hQ (Kd.Zh R6.out T5.out (by decide) 2 (.slice A6 (xH ws x).length c6))
  have R37 := hQ (Kd.Zh R35.out T5.out (by decide) 2 (.slice A6 (xH ws x).length c6))
  go_wp2_with (fail)
  clear u2 f2
  generalize w5.setCell ⟨g1, 2, none⟩ (.slice A6 (xH ws x).length c6) = W7 at *
  have k0 : W7.cell? ⟨g1, 0, none⟩ = some (.int .u64 q) := za T7.out 0
  have k1 : W7.cell? ⟨g1, 1, none⟩ = some (.slice A3 rs.length c3) := za T7.out 1
  have k2 : W7.cell? ⟨g1, 2, none⟩ = some (.slice A6 (xH ws x).length c6) := za T7.out 2
  have z0 : W7.cell? ⟨w.heap.size + 1, 0, none⟩ = some (.int .u64 0) := za Z7.out 0
  have z1 : W7.cell? ⟨w.heap.size + 1, 1, none⟩ = some (.slice none 0 0) := za Z7.out 1
  have z2 : W7.cell? ⟨w.heap.size + 1, 2, none⟩ = some (.slice none 0 0) := za Z7.out 2
  have j0 : W7.frozen? ⟨w.heap.size + 1, 0, none⟩ = false := zh Z7.out 0
  have j1 : W7.frozen? ⟨w.heap.size + 1, 1, none⟩ = false := zh Z7.out 1
  have j2 : W7.frozen? ⟨w.heap.size + 1, 2, none⟩ = false := zh Z7.out 2
  have hgt : decide ((2000 : Int) < ((xH ws x).length : Int)) = false := decide_eq_false (by have := Ji ws x; have := HWL.out; omega)
  rw [rounds_succ]
  go_wp2
  refine bodyPost_ret (v := .tuple #[.agg #[.int .u64 q, .slice A3 rs.length c3, .slice A6 (xH ws x).length c6], .int .i64 0]) ?_ rfl ?_
  · simp [results, Tryz.results236, go_sem, hu162, z0, z1, z2]
  have hz : ∀ i, i ≠ w.heap.size + 1 → i ≠ w.heap.size + 1 → (((W7.setCell ⟨w.heap.size + 1, 0, none⟩ (.int .u64 q)).setCell ⟨w.heap.size + 1, 1, none⟩ (.slice A3 rs.length c3)).setCell ⟨w.heap.size + 1, 2, none⟩ (.slice A6 (xH ws x).length c6)).heap[i]? = W7.heap[i]? := fun i h1 h2 => by
    rw [Below.heap_setCell _ _ _ i h2, Below.heap_setCell _ _ _ i h2, Below.heap_setCell _ _ _ i h2]
  exact ⟨_, rfl, ⟨A3, c3, A6, c6, rfl, Kd.zU (qN hz Z7.out Z7.out (by decide) R37.out) B0.out.size, Kd.zU (qN hz Z7.out Z7.out (by decide) R67.out) B4.out.size⟩, ((B7.out.setCell (Nat.le_succ _) _).setCell (Nat.le_succ _) _).setCell (Nat.le_succ _) _⟩
structure WrN (B N : Nat) (x : Ix) (g : Sg) (vs : Nat) (q : Int) (m n2 : Nat) (A1 A2 : Option Addr) (c1 c2 : Nat) (W : World) : Prop where
  h : ym W B N x g
  sp : x.writes = 2000
  P : W.heap[vs]? = some (.cells #[.int .u64 q, .slice A1 m c1, .slice A2 n2 c2] 162 (0, 0))
section
variable {B N m n2 : Nat} {x : Ix} {g : Sg} {vs : Nat} {q : Int} {A1 A2 : Option Addr} {c1 c2 : Nat} {W W1 : World}
theorem WrN.below (f : WrN B N x g vs q m n2 A1 A2 c1 c2 W) (hb : Below W.heap.size W W1) : WrN B N x g vs q m n2 A1 A2 c1 c2 W1 := ⟨f.h.below hb, f.sp, zb f.P hb⟩
theorem WrN.s0 (f : WrN B N x g vs q m n2 A1 A2 c1 c2 W) : W.cell? ⟨x.en, 3, none⟩ = some (.int .i64 2000) := by rw [← f.sp]; exact f.h.en.cells.2.2.2.1
theorem WrN.s1 (f : WrN B N x g vs q m n2 A1 A2 c1 c2 W) : W.cell? ⟨vs, 0, none⟩ = some (.int .u64 q) := za f.P 0
theorem WrN.s2 (f : WrN B N x g vs q m n2 A1 A2 c1 c2 W) : W.cell? ⟨vs, 1, none⟩ = some (.slice A1 m c1) := za f.P 1
theorem WrN.s3 (f : WrN B N x g vs q m n2 A1 A2 c1 c2 W) : W.cell? ⟨vs, 2, none⟩ = some (.slice A2 n2 c2) := za f.P 2
theorem WrN.ss (f : WrN B N x g vs q m n2 A1 A2 c1 c2 W) : W.cell? ⟨x.en, 3, none⟩ = some (.int .i64 2000) ∧ W.cell? ⟨vs, 0, none⟩ = some (.int .u64 q) ∧ W.cell? ⟨vs, 1, none⟩ = some (.slice A1 m c1) ∧ W.cell? ⟨vs, 2, none⟩ = some (.slice A2 n2 c2) := ⟨f.s0, f.s1, f.s2, f.s3⟩
end
theorem KX (w : World) (B N : Nat) (x : Ix) (g : Sg) (h : ym w B N x g) (hN : N < maxLen) (k : Int) (hk : (Lit.int .i64 k).wf = true) (q : Int) (rs : List S78) (hrs : rs.length ≤ 1000) (ws : List yg) (hws : qD ws) (hwl : ws.length ≤ 900) (hv0 : g.vs k = some ⟨q, rs, ws⟩) (hwr : x.writes = 2000) (A : Option Addr) (c B3 : Nat) (y : yg) (hy : qw y) (hl : Kd.R xL 208 w B3 (fun _ => True) (.slice A 1 c) [y]) :
    Calls Tryz.prog 215 #[.pointer (some ⟨x.en, 0, none⟩), .int .i64 k, .slice A 1 c] w fun e w' => e = .returned (.int .i64 0) ∧ ym w' B (N + 1) x (g.put k ⟨q, rs, xH ws y⟩) ∧ Ch TS (MS x) B w w' := by
  have hu125 := Tryz.underlying125
  have hu162 := Tryz.underlying162
  have HW := hQ h
  have HN := hQ hN
  have HK := hQ hk
  have HRS := hQ hrs
  have HV := hQ hv0
  have HWR := hQ hwr
  have HL := hQ hl
  have HY := hQ hy
  have HWS := hQ hws
  have HWL := hQ hwl
  clear h hN hk hrs hv0 hwr hl hy hws hwl
  go_enter Tryz.func215, Tryz.ntmps215
  go_wp2_with (fail)
  refine (VL w y HY.out A c B3 HL.out).mono ?_
  rintro e w2 ⟨rfl, hb⟩
  have B2 := hQ hb
  have H2 := hQ (HW.out.below hb)
  have L2 := hQ (Kd.zz HL.out hb)
  obtain ⟨v, hl, hv⟩ := H2.out.en.look_ok HK.out
  rw [HV.out] at hl hv
  obtain ⟨A1, c1, A2, c2, rfl, r1, r2⟩ := (show xK w2 B v ⟨q, rs, ws⟩ from hv).openN
  have hl2 : (Instr.lookup 123 (.map (some x.me)) (.int .i64 k) true).run Tryz.prog w2 = .ok (.tuple #[.agg #[.int .u64 q, .slice A1 rs.length c1, .slice A2 ws.length c2], .bool true]) w2 := hl
  obtain ⟨e0, e1, e2, e3, e4⟩ := H2.out.en.cells
  obtain ⟨W3, hW3⟩ : ∃ W3, W3 = (w2.alloc (.cells #[.int .u64 q, .slice A1 rs.length c1, .slice A2 ws.length c2] 162)).drew := ⟨_, rfl⟩
  have hb3 : Below w2.heap.size w2 W3 := by rw [hW3]; exact ((Below.refl _ _).alloc (Nat.le_refl _) _).trans (zl (Below.refl _ _))
  have hz3 : W3.heap.size = w2.heap.size + 1 := by rw [hW3]; simp
  have B3' := hQ (zf B2.out B2.out.size hb3)
  have F3 := hQ (show WrN B N x g w2.heap.size q rs.length ws.length A1 A2 c1 c2 W3 from ⟨H2.out.below hb3, HWR.out, by rw [hW3]; exact zb (zi w2 (.cells #[.int .u64 q, .slice A1 rs.length c1, .slice A2 ws.length c2] 162 (0, 0))) (zl (Below.refl _ _))⟩)
  have V3 := hQ (show xK W3 B (.agg #[.int .u64 q, .slice A1 rs.length c1, .slice A2 ws.length c2]) ⟨q, rs, ws⟩ from ⟨A1, c1, A2, c2, rfl, Kd.zz r1 hb3, Kd.zz r2 hb3⟩)
  have L3 := hQ (Kd.zz L2.out hb3)
  have hb4 : Below W3.heap.size W3 (W3.alloc (.cells #[.int .u64 0, .slice none 0 0, .slice none 0 0] 162)) := (Below.refl _ _).alloc (Nat.le_refl _) _
  have B4 := hQ (zf B3'.out B3'.out.size hb4)
  have F4 := hQ (F3.out.below hb4)
  have V4 := hQ (V3.out.of_below hb4)
  have L4 := hQ (Kd.zz L3.out hb4)
  have Z4 := hQ (show (W3.alloc (.cells #[.int .u64 0, .slice none 0 0, .slice none 0 0] 162)).heap[w2.heap.size + 1]? = some (.cells #[.int .u64 0, .slice none 0 0, .slice none 0 0] 162 (0, 0)) by rw [← hz3]; exact zi W3 _)
  rw [hW3] at B3' F3 V3 L3 B4 F4 V4 L4 Z4
  clear hb hb3 hb4 hl hv r1 r2 hz3 hW3
  go_wp2_with (fail)
--WALK
  refine sq_ (ds := [11]) #[false, false, false, false, false, false, false, false, false, false, false, false, false] (fun w' => w'.cell? ⟨x.en, 3, none⟩ = some (.int .i64 2000) ∧ w'.cell? ⟨w2.heap.size, 0, none⟩ = some (.int .u64 q) ∧ w'.cell? ⟨w2.heap.size, 1, none⟩ = some (.slice A1 rs.length c1) ∧ w'.cell? ⟨w2.heap.size, 2, none⟩ = some (.slice A2 ws.length c2)) ⟨F3.out.s0, F3.out.s1, F3.out.s2, F3.out.s3⟩ (fun hHeld => ?_)
  refine pq_ 1 (some 27) ?_
  refine pq_ 2 (some 28) ?_
  refine pq_ 3 (some 29) ?_
  refine pq_ 4 (some 30) ?_
  refine tq_ 0 (some 26) hHeld ?_
  refine tq_ 5 (some 31) hHeld ?_
  refine WZ (σ := Option Addr × Nat × Option Addr × Nat × Nat) 2 #[true, true, true, true, true, true, true, true, true, true, true, false, false] (fun s_ => [(32, (.tuple #[(.agg #[.int .u64 q, .slice s_.1 rs.length s_.2.1, .slice s_.2.2.1 (xH ws y).length s_.2.2.2.1]), .int .i64 0])), (25, (.tuple #[(.agg #[.int .u64 q, .slice s_.1 rs.length s_.2.1, .slice s_.2.2.1 (xH ws y).length s_.2.2.2.1]), .int .i64 0])), (33, (.agg #[.int .u64 q, .slice s_.1 rs.length s_.2.1, .slice s_.2.2.1 (xH ws y).length s_.2.2.2.1])), (34, .int .i64 0), (9, .pointer (some ⟨s_.2.2.2.2, 0, none⟩))]) (fun s_ w' => WrN B N x g w2.heap.size q rs.length ws.length A1 A2 c1 c2 w' ∧ xK w' B (.agg #[.int .u64 q, .slice s_.1 rs.length s_.2.1, .slice s_.2.2.1 (xH ws y).length s_.2.2.2.1]) ⟨q, rs, xH ws y⟩ ∧ Below w.heap.size w w' ∧ w'.heap[s_.2.2.2.2]? = some (.cells #[.int .u64 0, .slice none 0 0, .slice none 0 0] 162 (0, 0)) ∧ w.heap.size ≤ s_.2.2.2.2) ?_ ?_
  rotate_left
  · intro hCont
    refine zaX (i := 6) (j := 10) (Ni := some 32) (Nj := some 9) #[true, true, true, true, true, true, true, false, false, false, false, false, false] #[true, true, true, true, true, true, false, false, false, false, true, false, false] rfl rfl rfl rfl (by kernel_rfl) (by decide) (by decide) (fun K hK => ?_) (fun K hK => ?_)
    · skip
      refine yh Tryz.func236 (by kernel_rfl) rfl #[.agg #[.int .u64 q, .slice A1 rs.length c1, .slice A2 ws.length c2], .slice A 1 c, .int .i64 2000] (by rfl) rfl rfl (by (try simp only [List.map_toArray, List.map_cons, List.map_nil]); first | done | rfl) ?_
      refine (Yp _ B B3 _ q rs ws HWS.out HWL.out HRS.out V3.out A c y HY.out.1 L3.out).mono ?_
      rintro e w5 ⟨v5, rfl, hv5, hb⟩
      obtain ⟨A6, c6, A7, c7, hv0, r6, r7⟩ := hv5
      have hv1 : v5 = .agg #[.int .u64 q, .slice A6 rs.length c6, .slice A7 (xH ws y).length c7] := hv0
      clear hv0
      subst hv1
      refine ⟨_, rfl, ?_⟩
      have F5 := hQ (F3.out.below hb)
      have B5 := hQ (zf B3'.out B3'.out.size hb)
      have V5 := hQ (show xK w5 B (.agg #[.int .u64 q, .slice A6 rs.length c6, .slice A7 (xH ws y).length c7]) ⟨q, rs, xH ws y⟩ from ⟨A6, c6, A7, c7, rfl, Kd.zU r6 (Nat.le_trans HW.out.lt B3'.out.size), Kd.zU r7 (Nat.le_trans HW.out.lt B3'.out.size)⟩)
      clear hb r6 r7
      refine hK.out _ _ ⟨F5.out.s0, F5.out.s1, F5.out.s2, F5.out.s3⟩ (fun hHeld => ?_)
      clear hK K
      refine nq_ ?_
      refine pq_ 7 (some 25) ?_
      refine pq_ 8 (some 33) ?_
      refine pq_ 9 (some 34) ?_
      refine oq_ 10 (some 9) (fun K hK => ?_)
      refine jZ (w1 := ?_) (v := ?_) (by rfl) rfl ?_ ?_
      rotate_left 2
      · go_simp
        constructor
        · rfl
        · rfl
      have hb6 : Below w5.heap.size w5 (w5.alloc (.cells #[.int .u64 0, .slice none 0 0, .slice none 0 0] 162)) := (Below.refl _ _).alloc (Nat.le_refl _) _
      have F6 := hQ (F5.out.below hb6)
      have B6 := hQ (zf B5.out B5.out.size hb6)
      have V6 := hQ (V5.out.of_below hb6)
      have Z6 := hQ (zi w5 (.cells #[.int .u64 0, .slice none 0 0, .slice none 0 0] 162 (0, 0)))
      clear hb6
      refine hK.out _ _ ⟨F6.out.s0, F6.out.s1, F6.out.s2, F6.out.s3⟩ (fun hHeld => ?_)
      clear hK K
      refine nq_ ?_
      exact kH (by simp only [je, Act.put, List.setIfInBounds_toArray, List.set_cons_zero, List.set_cons_succ]) (hCont (A6, c6, A7, c7, w5.heap.size) _ ⟨F6.out, V6.out, B6.out, Z6.out, B5.out.size⟩)
    · skip
      refine jZ (w1 := ?_) (v := ?_) (by rfl) rfl ?_ ?_
      rotate_left 2
      · go_simp
        constructor
        · rfl
        · rfl
      refine hK.out _ _ ⟨F4.out.s0, F4.out.s1, F4.out.s2, F4.out.s3⟩ (fun hHeld => ?_)
      clear hK K
      refine nq_ ?_
      refine oq_ 6 (some 32) (fun K hK => ?_)
      refine yh Tryz.func236 (by kernel_rfl) rfl #[.agg #[.int .u64 q, .slice A1 rs.length c1, .slice A2 ws.length c2], .slice A 1 c, .int .i64 2000] (by rfl) rfl rfl (by (try simp only [List.map_toArray, List.map_cons, List.map_nil]); first | done | rfl) ?_
      refine (Yp _ B B3 _ q rs ws HWS.out HWL.out HRS.out V4.out A c y HY.out.1 L4.out).mono ?_
      rintro e w5 ⟨v5, rfl, hv5, hb⟩
      obtain ⟨A6, c6, A7, c7, hv0, r6, r7⟩ := hv5
      have hv1 : v5 = .agg #[.int .u64 q, .slice A6 rs.length c6, .slice A7 (xH ws y).length c7] := hv0
      clear hv0
      subst hv1
      refine ⟨_, rfl, ?_⟩
      have F5 := hQ (F4.out.below hb)
      have B5 := hQ (zf B4.out B4.out.size hb)
      have V5 := hQ (show xK w5 B (.agg #[.int .u64 q, .slice A6 rs.length c6, .slice A7 (xH ws y).length c7]) ⟨q, rs, xH ws y⟩ from ⟨A6, c6, A7, c7, rfl, Kd.zU r6 (Nat.le_trans HW.out.lt B4.out.size), Kd.zU r7 (Nat.le_trans HW.out.lt B4.out.size)⟩)
      have Z5 := hQ (zb Z4.out hb)
      clear hb r6 r7
      refine hK.out _ _ ⟨F5.out.s0, F5.out.s1, F5.out.s2, F5.out.s3⟩ (fun hHeld => ?_)
      clear hK K
      refine nq_ ?_
      refine pq_ 7 (some 25) ?_
      refine pq_ 8 (some 33) ?_
      refine pq_ 9 (some 34) ?_
      exact kH (by simp only [je, Act.put, List.setIfInBounds_toArray, List.set_cons_zero, List.set_cons_succ]) (hCont (A6, c6, A7, c7, w2.heap.size + 1) _ ⟨F5.out, V5.out, B5.out, Z5.out, Nat.le_succ_of_le B2.out.size⟩)
  rintro ⟨A6, c6, A7, c7, g9⟩ w9 ⟨f9, v9, b9, z9, l9⟩
  have hHeld := f9.ss
  have F9 := hQ f9
  have V9 := hQ v9
  have B9 := hQ b9
  have Z9 := hQ z9
  have L9 := hQ l9
  clear f9 v9 b9 z9 l9
  simp only [] at V9 Z9 L9
  have z0 : w9.cell? ⟨g9, 0, none⟩ = some (.int .u64 0) := za Z9.out 0
  have z1 : w9.cell? ⟨g9, 1, none⟩ = some (.slice none 0 0) := za Z9.out 1
  have z2 : w9.cell? ⟨g9, 2, none⟩ = some (.slice none 0 0) := za Z9.out 2
  have j0 : w9.frozen? ⟨g9, 0, none⟩ = false := zh Z9.out 0
  have j1 : w9.frozen? ⟨g9, 1, none⟩ = false := zh Z9.out 1
  have j2 : w9.frozen? ⟨g9, 2, none⟩ = false := zh Z9.out 2
  refine kH (a' := ?_) ?_ ?_
  rotate_left
  · simp only [je, Act.put, List.setIfInBounds_toArray, List.set_cons_zero, List.set_cons_succ]
    rfl
  refine kE (i := 11) (N := none) #[true, true, true, true, true, true, true, true, true, true, true, true, false] rfl rfl (by kernel_rfl) (by decide) (fun K hK => ?_)
  refine jY (w1 := ?_) (by rfl) rfl ?_ ?_
  rotate_left
  · go_simp
    rfl
  refine hK.out _ _ ?_
  clear hK K
  refine pq_ 12 (some 10) ?_
  refine xJ (by kernel_rfl) ?_
  --END
  go_wp2_with (fail)
  have hc := Ch.set3 (B := B) Z9.out (Nat.le_trans HW.out.lt L9.out) (.int .u64 q) (.slice A6 rs.length c6) (.slice A7 (xH ws y).length c7)
  have hv8 := V9.out.ch hc (by decide) (by decide)
  refine (JQ _ B N B x g (F9.out.h.ch162 hc) HN.out k HK.out _ ⟨q, rs, xH ws y⟩ hv8).mono ?_
  rintro e w10 ⟨rfl, h10, c10⟩
  have H10 := hQ h10
  have C10 := hQ ((HW.out.chb (YT B9.out L9.out (.int .u64 q) (.slice A6 rs.length c6) (.slice A7 (xH ws y).length c7))).trans c10)
  clear hc hv8 h10 c10
  go_wp2
  exact bodyPost_ret (v := .int .i64 0) (by simp [results, Tryz.results215, go_sem]) rfl ⟨rfl, H10.out, C10.out⟩
theorem ZV (w : World) (B N : Nat) (x : Ix) (g : Sg) (h : ym w B N x g) (hN : N < maxLen) (k : Int) (hk : (Lit.int .i64 k).wf = true) (hst : ((g.ses k).getD (0, 0, 0)).1 = 1) (q : Int) (rs : List S78) (hrs : rs.length ≤ 1000) (ws : List yg) (hws : qD ws) (hwl : ws.length ≤ 900) (hv0 : g.vs k = some ⟨q, rs, ws⟩) (hwr : x.writes = 2000) (A : Option Addr) (c B3 : Nat) (y : yg) (hy : qw y) (hl : Kd.R xL 208 w B3 (fun _ => True) (.slice A 1 c) [y]) :
    Calls Tryz.prog 181 #[.pointer (some ⟨x.ss, 0, none⟩), .int .i64 k, .slice A 1 c] w fun e w' => e = .returned (.int .i64 0) ∧ ym w' B (N + 1) x (g.put k ⟨q, rs, xH ws y⟩) ∧ Ch TS (MS x) B w w' := by
  have hu133 := Tryz.underlying133
  have hu191 := Tryz.underlying191
  have hf1 := vL
  have hf2 := jT
  have hlk := h.ss.look hk
  rw [hst] at hlk
  obtain ⟨c0, c1, c2, c3⟩ := h.ss.cells
  have HW := hQ h
  have HN := hQ hN
  have HK := hQ hk
  have HRS := hQ hrs
  have HV := hQ hv0
  have HWR := hQ hwr
  have HY := hQ hy
  have HWS := hQ hws
  have HWL := hQ hwl
  have HL := hQ hl
  clear h hN hk hst hrs hv0 hwr hy hl hws hwl
  go_enter Tryz.func181, Tryz.ntmps181
  go_wp2_with (fail)
  refine (KX w B N x g HW.out HN.out k HK.out q rs HRS.out ws HWS.out HWL.out HV.out HWR.out A c B3 y HY.out HL.out).mono ?_
  rintro e w2 ⟨rfl, h2, k2⟩
  have H2 := hQ h2
  have C2 := hQ k2
  clear h2 k2
  go_wp2_with (fail)
  refine (XE w2 x.ss k).mono ?_
  rintro e w3 ⟨rfl, hb⟩
  have H3 := hQ (H2.out.below hb)
  have C3 := hQ (C2.out.trans (H2.out.chb hb))
  clear hb
  go_wp2
  exact bodyPost_ret (v := .int .i64 0) (by simp [results, Tryz.results181, go_sem]) rfl ⟨rfl, H3.out, C3.out⟩
theorem Jo (w : World) (B N : Nat) (x : Ix) (g : Sg) (h : ym w B N x g) (hN : N + 2000 < maxLen) (hs : kG g.s.ch) (k : Int) (hk : (Lit.int .i64 k).wf = true) (q : Int) (rs : List S78) (ws : List yg) (hv0 : g.vs k = some ⟨q, rs, ws⟩) (hr : vU rs) (hy : qD ws ∧ 0 < ws.length ∧ ws.length ≤ 900) (hlast : 0 ≤ g.s.last ∧ g.s.last < 1000000) (hfull : 0 ≤ g.s.n ∧ g.s.n + ws.length ≤ g.s.most ∧ g.s.most ≤ 1000000) :
    Calls Tryz.prog 229 #[.pointer (some ⟨x.en, 0, none⟩), .int .i64 k] w fun e w' => e = .returned (.tuple (if xO g.s.ch rs q then #[.int .u64 (g.s.last + 1), .int .i64 0] else #[.int .u64 0, .int .i64 7])) ∧ ym w' B (N + ws.length) x (g.commit k ⟨q, rs, ws⟩) ∧ Ch TS (MS x) B w w' := by
  have hu125 := Tryz.underlying125
  have hu162 := Tryz.underlying162
  have hmf : ∀ (fn : Fn) (first cap : Array Value) (w : World), (Instr.makeFunc fn first cap).run Tryz.prog w = .ok (.func fn first cap) w := fun _ _ _ _ => rfl
  obtain ⟨v, hl, hv⟩ := h.en.look_ok hk
  rw [hv0] at hl hv
  obtain ⟨A1, c1, A2, c2, rfl, r1, r2⟩ := (show xK w B v ⟨q, rs, ws⟩ from hv)
  have hl2 : (Instr.lookup 123 (.map (some x.me)) (.int .i64 k) true).run Tryz.prog w = .ok (.tuple #[.agg #[.int .u64 q, .slice A1 rs.length c1, .slice A2 ws.length c2], .bool true]) w := hl
  obtain ⟨W1, hW1⟩ : ∃ W1, W1 = w.alloc (.cells #[.int .u64 q, .slice A1 rs.length c1, .slice A2 ws.length c2] 162) := ⟨_, rfl⟩
  have hb1 : Below w.heap.size w W1 := by rw [hW1]; exact (Below.refl _ _).alloc (Nat.le_refl _) _
  have H1 := hQ (h.below hb1)
  have C1 := hQ (h.chb hb1)
  have X1 := hQ (show W1.heap[w.heap.size]? = some (.cells #[.int .u64 q, .slice A1 rs.length c1, .slice A2 ws.length c2] 162 (0, 0)) by rw [hW1]; exact zi w _)
  have R1 := hQ (Kd.zz r1 hb1)
  have R2 := hQ (show Kd.R xL 208 W1 B (fun _ => True) (.slice A2 ws.length c2) ws from Kd.zz r2 hb1)
  obtain ⟨c0, c1', c2', c3, c4⟩ := h.en.cells
  obtain ⟨d0, d1, d2, d3, d4⟩ := H1.out.en.cells
  obtain ⟨w2, hrun, hE, hC⟩ := H1.out.en.del hk 0
  have hr2 : (Builtin.delete_ #[123, 3] 0 #[.map (some x.me), .int .i64 k]).run Tryz.prog W1 = .ok (.tuple #[]) w2 := hrun
  have H2 := hQ (show ym w2 B N x (g.del k) from (H1.out.of_eng (Nat.le_refl N) hE hC).1)
  have C2 := hQ (C1.out.trans (H1.out.of_eng (Nat.le_refl N) hE hC).2)
  have X2 := hQ (hC.cell X1.out (by decide))
  have R12 := hQ (hC.R R1.out (by decide))
  have R22 := hQ (hC.R R2.out (by decide))
  obtain ⟨e0, e1, e2, e3, e4⟩ := H2.out.en.cells
  have x0 : w2.cell? ⟨w.heap.size, 0, none⟩ = some (.int .u64 q) := za X2.out 0
  have x1 : w2.cell? ⟨w.heap.size, 1, none⟩ = some (.slice A1 rs.length c1) := za X2.out 1
  have x2 : w2.cell? ⟨w.heap.size, 2, none⟩ = some (.slice A2 ws.length c2) := za X2.out 2
  have HS := hQ hs
  have HK := hQ hk
  have HR := hQ hr
  have HY := hQ hy
  have HL := hQ hlast
  have HF := hQ hfull
  have HN := hQ hN
  clear h hl hv hb1 hN hs hk hr hy hlast hfull hrun hE hC r1 r2 hv0
  go_enter Tryz.func229, Tryz.ntmps229
  go_upto_region 4 with (fail)
  rw [← hW1]
  clear hW1 hl2 c0 c1' c2' c3 c4
  have hz0 : decide ((ws.length : Int) = 0) = false := decide_eq_false (by have := HY.out.2.1; omega)
  have hz1 : ((ws.length : Int) == 0) = false := by have := HY.out.2.1; simp; intro h; simp [h] at this
  go_wp2_with (fail)
  go_region_law (first | (go_simp; go_at_call 240; refine (VR _ B N x.st x.mst g.s (H2.out.below (zl (Below.refl _ _))).st HS.out A1 c1 B rs q (Kd.zz R12.out (zl (Below.refl _ _))) HR.out).mono ?_; rintro e w3 ⟨rfl, hb⟩; have H3 := hQ ((H2.out.below (zl (Below.refl _ _))).below hb); have C3 := hQ (C2.out.trans (Ch.trans (H2.out.chb (zl (Below.refl _ _))) ((H2.out.below (zl (Below.refl _ _))).chb hb))); have X3 := hQ (zb (zb X2.out (zl (Below.refl _ _))) hb); have R23 := hQ (Kd.zz (Kd.zz R22.out (zl (Below.refl _ _))) hb); clear hb))
  all_goals
    have y2 : w3.cell? ⟨w.heap.size, 2, none⟩ = some (.slice A2 ws.length c2) := za X3.out 2
    cases hfr : xO g.s.ch rs q
    · have HFR := hQ hfr
      have HZ := hQ (show ym w3 B (N + ws.length) x (g.commit k ⟨q, rs, ws⟩) by
        unfold Sg.commit
        rw [show xO g.s.ch (VS.mk q rs ws).reads (VS.mk q rs ws).snap = false from hfr]
        exact H3.out.mono (Nat.le_add_right _ _))
      go_wp2
      all_goals
        refine bodyPost_ret (v := .tuple #[.int .u64 0, .int .i64 7]) ?_ rfl ?_
        · simp [results, Tryz.results229, go_sem]
        exact ⟨rfl, HZ.out, C3.out⟩
    · have HFR := hQ hfr
      go_wp2_with (go_at_call 76; refine (Zj w3 B N x.st x.mst B g.s H3.out.st HS.out A2 c2 ws R23.out HY.out.1 ⟨HY.out.2.1, Nat.le_trans HY.out.2.2 (by decide)⟩ (by have := HN.out; omega) HL.out HF.out).mono ?_; rintro e w5 ⟨rfl, hS, hC⟩; have H5 := hQ (H3.out.of_store (Nat.le_add_right _ _) hS hC); clear hS hC)
      refine bodyPost_ret (v := .tuple #[.int .u64 (g.s.last + 1), .int .i64 0]) ?_ rfl ?_
      · simp [results, Tryz.results229, go_sem, Sg.del]
      refine ⟨rfl, ?_, C3.out.trans H5.out.2⟩
      unfold Sg.commit
      rw [show xO g.s.ch (VS.mk q rs ws).reads (VS.mk q rs ws).snap = true from HFR.out]
      exact H5.out.1
theorem QF (w : World) (B N : Nat) (x : Ix) (g : Sg) (h : ym w B N x g) (hN : N + 2000 < maxLen) (hs : kG g.s.ch) (k : Int) (hk : (Lit.int .i64 k).wf = true) (hst : ((g.ses k).getD (0, 0, 0)).1 = 1) (q : Int) (rs : List S78) (ws : List yg) (hv0 : g.vs k = some ⟨q, rs, ws⟩) (hr : vU rs) (hy : qD ws ∧ 0 < ws.length ∧ ws.length ≤ 900) (hlast : 0 ≤ g.s.last ∧ g.s.last < 1000000) (hfull : 0 ≤ g.s.n ∧ g.s.n + ws.length ≤ g.s.most ∧ g.s.most ≤ 1000000) :
    Calls Tryz.prog 210 #[.pointer (some ⟨x.ss, 0, none⟩), .int .i64 k] w fun e w' => e = .returned (.int .i64 (if xO g.s.ch rs q then 0 else 7)) ∧ ym w' B (N + ws.length + 1) x (g.scommit k ⟨q, rs, ws⟩) ∧ Ch TS (MS x) B w w' := by
  have hu133 := Tryz.underlying133
  have HW := hQ h
  have HN := hQ hN
  have HS := hQ hs
  have HK := hQ hk
  have HV := hQ hv0
  have HR := hQ hr
  have HY := hQ hy
  have HL := hQ hlast
  have HF := hQ hfull
  have HD := hQ (show (((g.ses k).getD (0, 0, 0)).1 == 1) = true by simpa using hst)
  clear h hN hs hk hst hv0 hr hy hlast hfull
  go_enter Tryz.func210, Tryz.ntmps210
  go_wp2_with (fail)
  refine (vZ w B N x.ss x.en x.bk x.ms x.ticks g.ses HW.out.ss k HK.out).mono ?_
  rintro e w1 ⟨rfl, hb⟩
  rw [HD.out]
  have H1 := hQ (HW.out.below hb)
  have C1 := hQ (HW.out.chb hb)
  obtain ⟨c0, c1, c2, c3⟩ := H1.out.ss.cells
  clear hb
  go_wp2_with (fail)
  refine (Jo w1 B N x g H1.out HN.out HS.out k HK.out q rs ws HV.out HR.out HY.out HL.out HF.out).mono ?_
  rintro e w2 ⟨rfl, h2, k2⟩
  have H2 := hQ h2
  have C2 := hQ (C1.out.trans k2)
  clear h2 k2 c0 c1 c2 c3
  cases hfr : xO g.s.ch rs q
  · have HE := hQ (show g.scommit k ⟨q, rs, ws⟩ = (g.commit k ⟨q, rs, ws⟩).turn k (0, 2, 0) by
      unfold Sg.scommit
      rw [show xO g.s.ch (VS.mk q rs ws).reads (VS.mk q rs ws).snap = false from hfr]
      rfl)
    go_wp2_with (fail)
    refine (ZI w2 7 (Or.inr rfl)).mono ?_
    rintro e w3 ⟨rfl, hb⟩
    have H3 := hQ (H2.out.below hb)
    have C3 := hQ (C2.out.trans (H2.out.chb hb))
    clear hb
    go_wp2_with (fail)
    refine (kI w3 B (N + ws.length) x _ H3.out (by have := HN.out; have := HY.out.2.2; omega) k HK.out 0 2 0).mono ?_
    rintro e w4 ⟨rfl, h4, k4⟩
    have H4 := hQ h4
    have C4 := hQ (C3.out.trans k4)
    clear h4 k4
    go_wp2
    all_goals
      go_ret
      exact ⟨rfl, by rw [HE.out]; exact H4.out, C4.out⟩
  · have HE := hQ (show g.scommit k ⟨q, rs, ws⟩ = (g.commit k ⟨q, rs, ws⟩).turn k (0, 0, g.s.last + 1) by
      unfold Sg.scommit
      rw [show xO g.s.ch (VS.mk q rs ws).reads (VS.mk q rs ws).snap = true from hfr]
      rfl)
    go_wp2_with (fail)
    refine (ZI w2 0 (Or.inl rfl)).mono ?_
    rintro e w3 ⟨rfl, hb⟩
    have H3 := hQ (H2.out.below hb)
    have C3 := hQ (C2.out.trans (H2.out.chb hb))
    clear hb
    go_wp2_with (fail)
    refine (kI w3 B (N + ws.length) x _ H3.out (by have := HN.out; have := HY.out.2.2; omega) k HK.out 0 0 (g.s.last + 1)).mono ?_
    rintro e w4 ⟨rfl, h4, k4⟩
    have H4 := hQ h4
    have C4 := hQ (C3.out.trans k4)
    clear h4 k4
    go_wp2
    all_goals
      go_ret
      exact ⟨rfl, by rw [HE.out]; exact H4.out, C4.out⟩
theorem Ze : ∀ (a b : List Int), yx (a ++ b) = yx a ++ yx b
  | [], b => rfl
  | x :: a, b => by simp only [List.cons_append, yx, Ze a b]
theorem zcC (l : List Int) (hl : l.length = 16) (row : List Int) (hrow : row = 3 :: 2 * (l.length : Int) :: yx l) : row.length = 34 := by
  rw [hrow]
  simp only [List.length_cons, xN, hl]
theorem zb0 (a : List Int) (x : Int) (b : List Int) (p q : Int) (ha : a.length ≤ 100) (hx : 0 ≤ x ∧ x < 65536) (hb : b.length ≤ 100) : zP.f (p :: q :: yx (a ++ x :: b)) (2 + 2 * (a.length : Int)) = some x := by
  have e : p :: q :: yx (a ++ x :: b) = (p :: q :: yx a) ++ (x / 256 % 256 :: x % 256 :: yx b) := by rw [Ze]; rfl
  have hA : (p :: q :: yx a).length = 2 + 2 * a.length := by simp only [List.length_cons, xN]; omega
  have hB : ((p :: q :: yx a) ++ (x / 256 % 256 :: x % 256 :: yx b)).length = 2 + 2 * a.length + 2 + 2 * b.length := by rw [List.length_append, hA]; simp only [List.length_cons, xN]; omega
  rw [e]
  have r0 : rd ((p :: q :: yx a) ++ (x / 256 % 256 :: x % 256 :: yx b)) (2 + 2 * (a.length : Int)) = x / 256 % 256 := by
    have : (2 + 2 * (a.length : Int)).toNat = (p :: q :: yx a).length := by rw [hA]; omega
    unfold rd
    rw [this, List.getD_eq_getElem?_getD, List.getElem?_append_right (Nat.le_refl _), Nat.sub_self]
    rfl
  have r1 : rd ((p :: q :: yx a) ++ (x / 256 % 256 :: x % 256 :: yx b)) (2 + 2 * (a.length : Int) + 1) = x % 256 := by
    have : (2 + 2 * (a.length : Int) + 1).toNat = (p :: q :: yx a).length + 1 := by rw [hA]; omega
    unfold rd
    rw [this, List.getD_eq_getElem?_getD, List.getElem?_append_right (by omega), show (p :: q :: yx a).length + 1 - (p :: q :: yx a).length = 1 by omega]
    rfl
  unfold zP.f xk.f
  rw [hB, if_neg (by omega), if_neg (by rw [zu (by omega) (by omega)]; omega), if_pos (by omega), if_pos (by omega), zu (x := 2 + 2 * (a.length : Int) + 1) (by omega) (by omega), if_pos (by omega), if_pos (by omega), r0, r1, Qh x hx, Option.bind_some, zu (by omega) (by omega)]
theorem zaF (p q : Int) : ∀ (b a : List Int) (k : Nat), b.length + 1 ≤ k → a.length + b.length ≤ 100 → (∀ x ∈ b, 0 ≤ x ∧ x < 65536) → zT.l0 k (p :: q :: yx (a ++ b)) 2 ((a ++ b).length : Int) a (a.length : Int) = some (a ++ b, true)
  | [], a, k, hk, hl, hx => by
    obtain ⟨k, rfl⟩ : ∃ j, k = j + 1 := ⟨k - 1, by omega⟩
    rw [zT.l0, List.append_nil, if_neg (by omega)]
  | x :: b, a, k, hk, hl, hx => by
    obtain ⟨k, rfl⟩ : ∃ j, k = j + 1 := ⟨k - 1, by omega⟩
    have hx0 := hx x (List.mem_cons_self ..)
    have hlen : (a ++ x :: b).length = a.length + b.length + 1 := by simp; omega
    have hl' : a.length + b.length + 1 ≤ 100 := by simp at hl; omega
    have hw : wrap64 (2 + wrap64 (2 * (a.length : Int))) = 2 + 2 * (a.length : Int) := by
      rw [zu (x := 2 * (a.length : Int)) (by omega) (by omega), zu (by omega) (by omega)]
    have hu : IntKind.u16.wrap x = x := by show x % 65536 = x; omega
    rw [zT.l0, hlen, if_pos (by omega), hw, zb0 a x b p q (by omega) hx0 (by omega), Option.bind_some, if_pos (by omega), hu, zu (x := (a.length : Int) + 1) (by omega) (by omega)]
    have h := zaF p q b (a ++ [x]) k (by simp at hk; omega) (by simp; omega) (fun y hy => hx y (List.mem_cons_of_mem _ hy))
    have e : (a ++ [x]) ++ b = a ++ x :: b := by simp
    have e2 : ((a ++ [x]).length : Int) = (a.length : Int) + 1 := by simp
    rw [e, e2, hlen] at h
    exact h
theorem zdl (l : List Int) (hl : l.length ≤ 16) (hx : ∀ x ∈ l, 0 ≤ x ∧ x < 65536) : zT.f 20 (3 :: 2 * (l.length : Int) :: yx l) 2 (l.length : Int) = some (l, true) := by
  unfold zT.f
  rw [if_pos]
  · exact zaF 3 _ l [] 20 (by omega) (by simp; omega) hx
  · rw [zu (x := 2 * (l.length : Int)) (by omega) (by omega), zu (by omega) (by omega)]
    simp only [List.length_cons, xN]
    omega
theorem zaT (w : World) (g0 c : Nat) (l : List Int) (nn : Int) (hl : l.length = 16) (hx : ∀ x ∈ l, 0 ≤ x ∧ x < 65536) (row : List Int) (hrow : row = 3 :: 2 * (l.length : Int) :: yx l) (hC : Kd.C (Kd.int .u8) w (some ⟨g0, 0, none⟩) 34 row) (hc : 34 ≤ c) :
    Calls Tryz.prog 45 #[.slice (some ⟨g0, 0, none⟩) 34 c, .int .i64 nn] w fun e w' => ∃ A k, e = .returned (.tuple #[yu 3 0 (.slice A 16 k) 0 0, .bool true]) ∧ Kd.R (Kd.int .u16) 33 w' w.heap.size (fun _ => True) (.slice A 16 k) l ∧ Below w.heap.size w w' := by
  have hu41 := Tryz.underlying41
  have hlen := zcC l hl row hrow
  have i0 := Ring.C_cell hC rfl 0 3 (by rw [hrow]; rfl)
  have i1 := Ring.C_cell hC rfl 1 32 (by rw [hrow, hl]; rfl)
  have hg : g0 < w.heap.size := World.block_lt_of_cell? _ _ i0
  obtain ⟨W1, hW1⟩ : ∃ W1, W1 = (w.alloc (.cells yl 41)).alloc (.cells (YB 3) 41) := ⟨_, rfl⟩
  have B1 := hQ (show Below w.heap.size w W1 by rw [hW1]; exact ((Below.refl _ _).alloc (Nat.le_refl _) _).alloc (by simp) _)
  have X1 := hQ (show W1.heap[w.heap.size]? = some (.cells yl 41 (0, 0)) by rw [hW1]; exact zg (zi w _) _)
  have Y1 := hQ (show W1.heap[w.heap.size + 1]? = some (.cells (YB 3) 41 (0, 0)) by rw [hW1]; exact yS w _ _)
  have C1 := hQ (Kd.zx hC B1.out)
  rw [hW1] at B1 X1 Y1 C1
  have hW0 : zT.f 20 row 2 16 = some (l, true) := by
    have h := zdl l (by omega) hx
    rw [← hrow, hl] at h
    exact h
  have HW := hQ hW0
  have hcall := fun w h1 h2 => zT.calls 20 (some ⟨g0, 0, none⟩) c row 2 16 l true w h1 h2 HW.out
  simp only [hlen] at hcall
  have HL := hQ hl
  have HC := hQ hc
  clear hC hc hW1 hW0 hrow hl hlen hx
  simp only [yu, zW, yl, YB] at B1 X1 Y1 C1 ⊢
  go_enter Tryz.func45, Tryz.ntmps45
  go_wp2_with (fail)
  refine (hcall _ C1.out HC.out).mono ?_
  rintro e w3 ⟨v0, rfl, hr, hb⟩
  have B3 := hQ (zf B1.out B1.out.size hb)
  have X3 := hQ (zb X1.out hb)
  have Y3 := hQ (zb Y1.out hb)
  obtain ⟨A3, c3, hv0⟩ := Kd.yc hr
  rw [HL.out] at hv0
  have hv0' : v0 = .slice A3 16 c3 := hv0
  clear hv0
  subst hv0'
  have R3 := hQ (Kd.zU hr B1.out.size)
  clear hr hb
  obtain ⟨x0, x1, x2, x3, x4, x5, x6, x7, x8, x9, x10, x11, x12, x13⟩ := yK X3.out
  obtain ⟨y0, y1, y2, y3, y4, y5, y6, y7, y8, y9, y10, y11, y12, y13⟩ := yK Y3.out
  have fx : ∀ i, w3.frozen? ⟨w.heap.size, i, none⟩ = false := fun i => zh X3.out i
  have fy : ∀ i, w3.frozen? ⟨w.heap.size + 1, i, none⟩ = false := fun i => zh Y3.out i
  go_wp2
  refine bodyPost_ret (v := .tuple #[.agg #[.int .i64 3, .int .i64 0, .slice none 0 0, .slice A3 16 c3, .int .i64 0, .int .i64 0, .int .u16 0, .int .u16 0, .int .u16 0, .int .i64 0, .int .i64 0, .bool false, .int .i64 0, .slice none 0 0], .bool true]) ?_ rfl ⟨A3, c3, rfl, ?_, B3.out.trans ?_⟩
  · simp [results, Tryz.results45, go_sem, hu41, x0, x1, x2, x3, x4, x5, x6, x7, x8, x9, x10, x11, x12, x13]
  · refine RT.r (b1 := w.heap.size) (b2 := w.heap.size + 1) ?_
    repeat (with_reducible first | exact RT.mk' R3.out X3.out Y3.out | (refine RT.set ?_ (by first | exact Or.inl rfl | exact Or.inr rfl)))
  · (repeat (with_reducible first | exact Below.refl _ _ | (refine jG ?_ (by omega))))
theorem zaL (w : World) (g0 c : Nat) (l : List Int) (nn : Int) (hl : l.length = 16) (hx : ∀ x ∈ l, 0 ≤ x ∧ x < 65536) (row : List Int) (hrow : row = 3 :: 2 * (l.length : Int) :: yx l) (hC : Kd.C (Kd.int .u8) w (some ⟨g0, 0, none⟩) 34 row) (hc : 34 ≤ c) :
    Calls Tryz.prog 19 #[.slice (some ⟨g0, 0, none⟩) 34 c, .int .i64 nn] w fun e w' => ∃ A k, e = .returned (.tuple #[yu 3 0 (.slice A 16 k) 0 0, .int .i64 0]) ∧ Kd.R (Kd.int .u16) 33 w' w.heap.size (fun _ => True) (.slice A 16 k) l ∧ Below w.heap.size w w' := by
  have hu41 := Tryz.underlying41
  have i0 := Ring.C_cell hC rfl 0 3 (by rw [hrow]; rfl)
  have hg : g0 < w.heap.size := World.block_lt_of_cell? _ _ i0
  have B1 := hQ (show Below w.heap.size w (w.alloc (.cells yl 41)) from (Below.refl _ _).alloc (Nat.le_refl _) _)
  have X1 := hQ (zi w (.cells yl 41))
  have C1 := hQ (Kd.zx hC B1.out)
  have HC := hQ hc
  have hH := zaT _ g0 c l nn hl hx row hrow C1.out HC.out
  clear hC hc hrow hl hx
  simp only [yu, zW, yl] at B1 X1 C1 hH ⊢
  go_enter Tryz.func19, Tryz.ntmps19
  go_wp2_with (fail)
  refine hH.mono ?_
  rintro e w2 ⟨A3, k3, rfl, hr, hb⟩
  have B2 := hQ (zf B1.out B1.out.size hb)
  have X2 := hQ (zb X1.out hb)
  have R2 := hQ (Kd.zU hr B1.out.size)
  clear hr
  have B3 := hQ (B2.out.alloc B2.out.size (.cells #[.int .i64 3, .int .i64 0, .slice none 0 0, .slice A3 16 k3, .int .i64 0, .int .i64 0, .int .u16 0, .int .u16 0, .int .u16 0, .int .i64 0, .int .i64 0, .bool false, .int .i64 0, .slice none 0 0] 41))
  have X3 := hQ (zg X2.out (.cells #[.int .i64 3, .int .i64 0, .slice none 0 0, .slice A3 16 k3, .int .i64 0, .int .i64 0, .int .u16 0, .int .u16 0, .int .u16 0, .int .i64 0, .int .i64 0, .bool false, .int .i64 0, .slice none 0 0] 41))
  have Y3 := hQ (zi w2 (.cells #[.int .i64 3, .int .i64 0, .slice none 0 0, .slice A3 16 k3, .int .i64 0, .int .i64 0, .int .u16 0, .int .u16 0, .int .u16 0, .int .i64 0, .int .i64 0, .bool false, .int .i64 0, .slice none 0 0] 41))
  clear hb
  go_wp2_with (fail)
  refine (Js _ A3 16 k3 (by decide)).mono ?_
  rintro e w4 ⟨rfl, hb⟩
  have B4 := hQ (zf B3.out B3.out.size hb)
  have X4 := hQ (zb X3.out hb)
  have Y4 := hQ (zb Y3.out hb)
  have R4 := hQ (Kd.zz (Kd.qg R2.out _) hb)
  have S2 := hQ (zF X2.out)
  clear hb
  obtain ⟨x0, x1, x2, x3, x4, x5, x6, x7, x8, x9, x10, x11, x12, x13⟩ := yK X4.out
  obtain ⟨y0, y1, y2, y3, y4, y5, y6, y7, y8, y9, y10, y11, y12, y13⟩ := yK Y4.out
  have fx : ∀ i, w4.frozen? ⟨w.heap.size, i, none⟩ = false := fun i => zh X4.out i
  go_wp2
  refine bodyPost_ret (v := .tuple #[.agg #[.int .i64 3, .int .i64 0, .slice none 0 0, .slice A3 16 k3, .int .i64 0, .int .i64 0, .int .u16 0, .int .u16 0, .int .u16 0, .int .i64 0, .int .i64 0, .bool false, .int .i64 0, .slice none 0 0], .int .i64 0]) ?_ rfl ⟨A3, k3, rfl, ?_, B4.out.trans ?_⟩
  · simp [results, Tryz.results19, go_sem, hu41, x0, x1, x2, x3, x4, x5, x6, x7, x8, x9, x10, x11, x12, x13]
  · refine RT.r (b1 := w.heap.size) (b2 := w.heap.size) ?_
    repeat (with_reducible first | exact RT.mk' R4.out X4.out X4.out | (refine RT.set ?_ (Or.inl rfl)))
  · (repeat (with_reducible first | exact Below.refl _ _ | (refine jG ?_ (by omega))))
theorem zbh (l : List Int) (nn : Int) (hl : l.length = 16) (hx : ∀ x ∈ l, 0 ≤ x ∧ x < 65536) : Ym 3 0 l 0 0 nn (3 :: 2 * (l.length : Int) :: yx l) := fun w1 g0 c hC hc => by
  have hlen := zcC l hl _ rfl
  rw [hlen] at hC hc
  rw [hlen, hl]
  exact zaL w1 g0 c l nn hl hx _ rfl hC hc
end Go.Proofs.YtlalbohhopmpdaaGreat.Top
namespace Go.Proofs.YtlalbohhopmpdaaGreat.Top
open Go.RowKit Go.Proofs.YtlalbohhopmpdaaGreat.PTop Go.YW.PrintWords Go.YW.PrintLast Go.YW.PrintMore Go.Proofs.YtlalbohhopmpdaaGreat.Num
open Go.Proofs.YtlalbohhopmpdaaGreat.LemHeadTop Go.Proofs.YtlalbohhopmpdaaGreat.LemAduTop
section
variable {w : World} {B N : Nat} {x : Ix} {g : Sg} {tb gb dk n : Nat} {L : Nat → Nat → Nat} {k : Int}
theorem Yo (h : xz w B N x g tb gb dk n L k) (hk : 0 ≤ k ∧ k < 1000) (hN : N ≤ 1000000) (c : Nat) (hc : c < n) (a v : Int) (ha : okA a) (hv : 0 ≤ v ∧ v < 65536) (hst : ((g.ses c).getD (0, 0, 0)).1 = 1) (q : Int) (ws : List yg) (hws : qD ws) (hwl : ws.length ≤ 900) (hv0 : g.vs c = some ⟨q, [], ws⟩) (hwr : x.writes = 2000) :
    yV w B (N + 2) x (g.put c ⟨q, [], xH ws ⟨⟨2, a⟩, v⟩⟩) tb gb dk n L k c 6 a 0 v 0 [] a v := by
  have hn3 := h.gt.desk.le
  have hwf := Yy (c := c) (by omega)
  have hl := lim hN
  have hla := kZ ha
  have hy : qw (⟨⟨2, a⟩, v⟩ : yg) := ⟨rfl, hla.1, by show a < 65536; omega⟩
  refine vI w B N (N + 2) x g _ tb gb dk n L k h hk c hc 6 a 0 v [6, 0, a, v / 256, v % 256] [6, 0, a, v / 256, v % 256] rfl (JV a v hla hv) (Qq a v (k + 1) c hla hv (by omega) (by omega)) ?_ (by unfold Ok; simp; omega) (JV a v hla hv) 0 [] a v (vM a v 0 (.inl ha) hla hv)
  intro w1 m gr o g0 cap B0 hs hcf hR
  refine Qj w1 B N (N + 2) x g _ hs (by omega) m gr o hcf c hwf a v 0 a v hla hv (fun w2 hs2 hcf2 => ?_) [6, 0, a, v / 256, v % 256] 5 (vF a v hla hv) g0 cap B0 hR
  rcases hses : (g.ses c).getD (0, 0, 0) with ⟨s1, s2, s3⟩
  have h1 : s1 = 1 := by rw [hses] at hst; exact hst
  exact zdC w2 B (N + 1) (N + 2) x g _ hs2 m gr o hcf2 c hwf s1 s2 s3 hses (by omega) a v ha hv (fun w3 A c' B3 hs3 hl3 => ZV w3 B (N + 1) x g hs3 (by omega) c hwf hst q [] (by simp) ws hws hwl hv0 hwr A c' B3 _ hy hl3)
theorem kR (h : xz w B N x g tb gb dk n L k) (hk : 0 ≤ k ∧ k < 1000) (hN : N ≤ 1000000) (c : Nat) (hc : c < n) (hs0 : kG g.s.ch) (hst : ((g.ses c).getD (0, 0, 0)).1 = 1) (q : Int) (ws : List yg) (hv0 : g.vs c = some ⟨q, [], ws⟩) (hy : qD ws ∧ 0 < ws.length ∧ ws.length ≤ 900) (hlast : 0 ≤ g.s.last ∧ g.s.last < 1000000) (hfull : 0 ≤ g.s.n ∧ g.s.n + ws.length ≤ g.s.most ∧ g.s.most ≤ 1000000) :
    yV w B (N + 1 + ws.length + 1) x (g.scommit c ⟨q, [], ws⟩) tb gb dk n L k c 6 100 0 2 0 [] 100 2 := by
  have hwf := Yy (c := c) (by have := h.gt.desk.le; omega)
  have hl := lim hN
  refine Zu h hk hN c hc 2 (by omega) (N + 1 + ws.length + 1) _ 0 100 2 [6, 0, 100, 2 / 256, 2 % 256] (by decide) (by decide) (JV 100 2 (by omega) (by omega)) (fun w1 hs => ?_) (vF 100 2 (by omega) (by omega)) (vM 100 2 0 (.inr rfl) (by omega) (by omega))
  refine XO w1 B (N + 1) (N + 1 + ws.length + 1) x g _ hs c (fun w2 hs2 => ?_)
  exact QF w2 B (N + 1) x g hs2 (by omega) hs0 c hwf hst q [] ws hv0 (.inl rfl) hy hlast hfull
theorem Jy (h : xz w B N x g tb gb dk n L k) (hk : 0 ≤ k ∧ k < 1000) (hN : N ≤ 1000000) (c : Nat) (hc : c < n) (l : List Int) (hy : ∀ y ∈ l, 0 ≤ y ∧ y < 65536) (hs0 : kG g.s.ch) (hst : ((g.ses c).getD (0, 0, 0)).1 = 0) (hx : jK g.s.ch 2 24 g.s.last 16 = l) :
    yV w B (N + 1) x g tb gb dk n L k c 3 24 16 0 0 l 0 0 := by
  have hn3 := h.gt.desk.le
  have hl := lim hN
  have hll : l.length = 16 := by rw [← hx]; exact Yi _ _ _ _ _
  rcases hses : (g.ses c).getD (0, 0, 0) with ⟨s1, s2, s3⟩
  have h1 : s1 = 0 := by rw [hses] at hst; exact hst
  refine vI w B N (N + 1) x g _ tb gb dk n L k h hk c hc 3 24 16 0 [3, 0, 24, 0, 16] _ rfl (zdL 24 16 (by omega) (by omega)) (VG 24 16 (k + 1) c (by omega) (by omega) (by omega) (by omega)) ?_ (by unfold Ok; simp [xN, hll]; omega) (zcx l (by omega)) 0 l 0 0 (zbh l 16 hll hy)
  intro w1 m gr o g0 cap B0 hs hcf hP
  have hR : VK B (N + 1) (N + 1) x g g c 24 (24 + ((16 : Nat) : Int)) 16 l := fun w3 hs3 => by
    have hr := vE w3 B (N + 1) x g hs3 (by omega) hs0 c (Yy (by omega)) hst 2 24 40 (by omega) (by omega) 16 (by omega)
    rw [hx] at hr
    refine hr.mono ?_
    rintro e w4 ⟨A, c', rfl, hr4, hb⟩
    exact ⟨A, c', rfl, hr4, hs3.below hb, hs3.chb hb⟩
  have hS := Vy w1 B N (N + 1) x g g hs (by omega) m gr o hcf c (Yy (by omega)) 24 16 l hll (by omega) (by omega) (fun w2 hs2' hcf2 => zdF w2 B (N + 1) (N + 1) x g g hs2' m gr o hcf2 c (Yy (by omega)) s1 s2 s3 hses (by omega) 24 16 l hll (by omega) (by omega) Wt hR) g0 cap B0 hP
  have e1 : (3 :: 2 * (l.length : Int) :: yx l : List Int).length = 2 + 2 * 16 := by simp [xN, hll]
  rw [e1, hll]
  exact hS
end
def vB (z : Int) : Int := Int.tdiv z 16 % 60000
theorem JB (z : Int) : 0 ≤ vB z ∧ vB z < 60000 := by unfold vB; omega
def cB (z : Int) : yg := ⟨⟨2, 24 + z % 16⟩, vB z⟩
theorem zdB (z : Int) : qw (cB z) := ⟨rfl, by show 0 ≤ 24 + z % 16; omega, by show 24 + z % 16 < 65536; omega⟩
def xA (l : List Int) : List yg := l.foldl (fun ws z => xH ws (cB z)) []
def yQ (l : List Int) : Int → Int := l.foldl (fun f z => fun i => if i = z % 16 then vB z + 1 else f i) (fun _ => 0)
theorem Yh (l : List Int) (z : Int) : xA (l ++ [z]) = xH (xA l) (cB z) := by
  unfold xA
  rw [List.foldl_append]
  rfl
theorem kQ (l : List Int) (z i : Int) : yQ (l ++ [z]) i = if i = z % 16 then vB z + 1 else yQ l i := by
  unfold yQ
  rw [List.foldl_append]
  rfl
theorem zdm (l : List Int) : ∀ (ws : List yg) (f : Int → Int) (n : Nat), qD ws → ws.length ≤ n → (∀ i, lkC ws (24 + i) = if f i = 0 then none else some (f i - 1)) → (∀ i, 0 ≤ f i ∧ f i ≤ 60000) →
    qD (l.foldl (fun ws z => xH ws (cB z)) ws) ∧ (l.foldl (fun ws z => xH ws (cB z)) ws).length ≤ n + l.length ∧ (∀ i, lkC (l.foldl (fun ws z => xH ws (cB z)) ws) (24 + i) = if (l.foldl (fun f z => fun i => if i = z % 16 then vB z + 1 else f i) f) i = 0 then none else some ((l.foldl (fun f z => fun i => if i = z % 16 then vB z + 1 else f i) f) i - 1)) ∧ ∀ i, 0 ≤ (l.foldl (fun f z => fun i => if i = z % 16 then vB z + 1 else f i) f) i ∧ (l.foldl (fun f z => fun i => if i = z % 16 then vB z + 1 else f i) f) i ≤ 60000 := by
  induction l with
  | nil => exact fun ws f n h1 h2 h3 h4 => ⟨h1, h2, h3, h4⟩
  | cons z l ih =>
    intro ws f n h1 h2 h3 h4
    have hz := JB z
    have h := ih (xH ws (cB z)) (fun i => if i = z % 16 then vB z + 1 else f i) (n + 1) (zbO h1 (zdB z)) (by have := Ji ws (cB z); omega) (fun i => by
      rw [zb3 h1]
      show (if 24 + i = 24 + z % 16 then some (vB z) else lkC ws (24 + i)) = _
      by_cases e : i = z % 16
      · rw [if_pos (by omega), if_pos e, if_neg (by omega)]
        congr 1
        omega
      · rw [if_neg (by omega), h3, if_neg e]) (fun i => by
      split
      · omega
      · exact h4 i)
    refine ⟨h.1, ?_, h.2.2.1, h.2.2.2⟩
    have := h.2.1
    simp only [List.foldl_cons, List.length_cons] at this ⊢
    omega
theorem yY (l : List Int) : qD (xA l) ∧ (xA l).length ≤ l.length ∧ (∀ i, lkC (xA l) (24 + i) = if yQ l i = 0 then none else some (yQ l i - 1)) ∧ ∀ i, 0 ≤ yQ l i ∧ yQ l i ≤ 60000 := by
  have h := zdm l [] (fun _ => 0) 0 ⟨(by intro z hz; cases hz), List.Pairwise.nil⟩ (Nat.le_refl _) (fun i => rfl) (fun i => by omega)
  rw [Nat.zero_add] at h
  exact h
theorem Xq (l : List Int) (h : 0 < l.length) : 0 < (xA l).length := by
  have e : l = l.dropLast ++ [l.getLast (List.ne_nil_of_length_pos h)] := (List.dropLast_concat_getLast _).symm
  rw [e, Yh]
  exact zba _ _
theorem zaE {l : List yg} {a : Int} (h : ∀ z ∈ l, a < z.f0.f1) : lkC l a = none := by
  induction l with
  | nil => rfl
  | cons y l ih =>
    unfold lkC
    rw [if_neg (by have := h y List.mem_cons_self; omega)]
    exact ih (fun z hz => h z (List.mem_cons_of_mem _ hz))
theorem YE (q : Int) (l : List yg) : ∀ (ch : Int × Int → List xU), qD l → ∀ t a, qG ch q l (t, a) = if t = 2 then (match lkC l a with | some v => ch (t, a) ++ [⟨q, v⟩] | none => ch (t, a)) else ch (t, a) := by
  induction l with
  | nil =>
    intro ch h t a
    show ch (t, a) = if t = 2 then ch (t, a) else ch (t, a)
    split <;> rfl
  | cons y l ih =>
    intro ch h t a
    have h2 := List.pairwise_cons.1 h.2
    have hy := h.1 y List.mem_cons_self
    have hl : qD l := ⟨fun z hz => h.1 z (List.mem_cons_of_mem _ hz), h2.2⟩
    show qG (ZM ch q y) q l (t, a) = _
    rw [ih _ hl t a]
    have hk : kOf y = (2, y.f0.f1) := by unfold kOf; rw [hy.1]
    have hadd : ZM ch q y (t, a) = if (t, a) = (2, y.f0.f1) then ch (2, y.f0.f1) ++ [⟨q, y.f1⟩] else ch (t, a) := by
      unfold ZM
      rw [hk]
    by_cases ht : t = 2
    · subst ht
      rw [if_pos rfl, if_pos rfl, hadd, show lkC (y :: l) a = if y.f0.f1 = a then some y.f1 else lkC l a from rfl]
      by_cases e : y.f0.f1 = a
      · rw [if_pos e, ← e, if_pos rfl, zaE (fun z hz => h2.1 z hz)]
      · rw [if_neg e, if_neg (fun h => e (Prod.mk.inj h).2.symm)]
    · rw [if_neg ht, if_neg ht, hadd, if_neg (fun h => ht (Prod.mk.inj h).1)]
def ch1 (l : List Int) : Int × Int → List xU := qG (fun _ => []) 1 (xA l)
def ch2 (l m : List Int) : Int × Int → List xU := qG (ch1 l) 2 (xA m)
theorem zan (l : List Int) (t a : Int) : ch1 l (t, a) = [] ∨ ∃ v, ch1 l (t, a) = [⟨1, v⟩] := by
  unfold ch1
  rw [YE 1 _ _ (yY l).1]
  split
  · split
    · exact .inr ⟨_, rfl⟩
    · exact .inl rfl
  · exact .inl rfl
theorem zay (l : List Int) : kG (ch1 l) := by
  rintro ⟨t, a⟩
  rcases zan l t a with e | ⟨v, e⟩
  · rw [e]; exact ⟨List.Pairwise.nil, Nat.zero_le _⟩
  · rw [e]; exact ⟨List.pairwise_singleton _ _, by show 1 ≤ 1000000; omega⟩
theorem zcR (l m : List Int) : kG (ch2 l m) := by
  rintro ⟨t, a⟩
  have h : ch2 l m (t, a) = ch1 l (t, a) ∨ ∃ v, ch2 l m (t, a) = ch1 l (t, a) ++ [⟨2, v⟩] := by
    unfold ch2
    rw [YE 2 _ _ (yY m).1]
    split
    · split
      · exact .inr ⟨_, rfl⟩
      · exact .inl rfl
    · exact .inl rfl
  rcases h with e | ⟨v, e⟩
  · rw [e]; exact zay l (t, a)
  · rw [e]
    rcases zan l t a with e | ⟨u, e⟩
    · rw [e]; exact ⟨List.pairwise_singleton _ _, by show 1 ≤ 1000000; omega⟩
    · rw [e]
      refine ⟨?_, by show 2 ≤ 1000000; omega⟩
      exact List.pairwise_cons.2 ⟨fun z hz => by rw [List.mem_singleton.1 hz]; show (1 : Int) < 2; omega, List.pairwise_singleton _ _⟩
def qM (l m : List Int) (i : Int) : Int := max ((if yQ m i = 0 then yQ l i else yQ m i) - 1) 0
theorem YS (l m : List Int) (i : Int) : 0 ≤ qM l m i ∧ qM l m i < 65536 := by
  have h1 := (yY l).2.2.2 i
  have h2 := (yY m).2.2.2 i
  unfold qM
  split <;> omega
def jI (l m : List Int) : List Int := (List.range 16).map (fun (i : Nat) => qM l m (i : Int))
theorem WC (l m : List Int) : ∀ y ∈ jI l m, 0 ≤ y ∧ y < 65536 := by
  intro y hy
  obtain ⟨i, _, rfl⟩ := List.mem_map.1 hy
  exact YS l m i
theorem WN (l m : List Int) (i : Nat) (h : i < 16) : (jI l m)[i]? = some (qM l m (i : Int)) := by
  unfold jI
  rw [List.getElem?_map, List.getElem?_range h]
  rfl
theorem jV (l m : List Int) : (jI l m).length = 16 := by simp [jI]
theorem zbt (l m : List Int) : jK (ch2 l m) 2 24 2 16 = jI l m := by
  unfold jK jI
  refine List.map_congr_left (fun i _ => ?_)
  have h1 := (yY l).2.2
  have h2 := (yY m).2.2
  have e1 : ch1 l (2, 24 + (i : Int)) = if yQ l i = 0 then [] else [⟨1, yQ l i - 1⟩] := by
    unfold ch1
    rw [YE 1 _ _ (yY l).1, if_pos rfl, h1.1]
    by_cases e : yQ l i = 0
    · rw [if_pos e, if_pos e]
    · rw [if_neg e, if_neg e]
      rfl
  have e2 : ch2 l m (2, 24 + (i : Int)) = if yQ m i = 0 then ch1 l (2, 24 + (i : Int)) else ch1 l (2, 24 + (i : Int)) ++ [⟨2, yQ m i - 1⟩] := by
    unfold ch2
    rw [YE 2 _ _ (yY m).1, if_pos rfl, h2.1]
    by_cases e : yQ m i = 0
    · rw [if_pos e, if_pos e]
    · rw [if_neg e, if_neg e]
  have b1 := h1.2 i
  have b2 := h2.2 i
  rw [e2, e1]
  unfold qM
  by_cases c2 : yQ m i = 0
  · rw [if_pos c2, if_pos c2]
    by_cases c1 : yQ l i = 0
    · rw [if_pos c1, c1]
      rfl
    · rw [if_neg c1]
      show yQ l i - 1 = _
      omega
  · rw [if_neg c2, if_neg c2]
    by_cases c1 : yQ l i = 0
    · rw [if_pos c1]
      show yQ m i - 1 = _
      omega
    · rw [if_neg c1]
      show yQ m i - 1 = _
      omega
structure St (g : Sg) (wa wb : List yg) : Prop where
  s : g.s = G0.s
  a : g.vs 0 = some ⟨0, [], wa⟩
  b : g.vs 1 = some ⟨0, [], wb⟩
  sa : ((g.ses 0).getD (0, 0, 0)).1 = 1
  sb : ((g.ses 1).getD (0, 0, 0)).1 = 1
  sc : ((g.ses 2).getD (0, 0, 0)).1 = 0
theorem St.put0 {g : Sg} {wa wb : List yg} (h : St g wa wb) (wc : List yg) : St (g.put 0 ⟨0, [], wc⟩) wc wb := ⟨h.s, rfl, h.b, h.sa, h.sb, h.sc⟩
theorem St.put1 {g : Sg} {wa wb : List yg} (h : St g wa wb) (wc : List yg) : St (g.put 1 ⟨0, [], wc⟩) wa wc := ⟨h.s, h.a, rfl, h.sa, h.sb, h.sc⟩
def b1g : Sg := (G0.put 0 ⟨0, [], []⟩).turn 0 (1, 0, 0)
def b2g : Sg := (b1g.put 1 ⟨0, [], []⟩).turn 1 (1, 0, 0)
theorem zd0 : St b2g [] [] := ⟨rfl, rfl, rfl, rfl, rfl, rfl⟩
theorem zaP (z : Int) : okA (24 + z % 16) := .inr (.inr (by omega))
section
variable {w : World} {B N : Nat} {x : Ix} {tb gb dk : Nat} {L : Nat → Nat → Nat} {g : Sg} {la lb : List Int} {k : Int}
theorem bs1 (h : xz w B 0 x G0 tb gb dk 3 L 0) (hx : x.most = 8) : yV w B 4 x b1g tb gb dk 3 L 0 0 6 100 0 1 0 [] 100 1 := Zw h (by omega) (by omega) 0 (by decide) rfl (by decide) (by rw [hx]; decide)
theorem bs2 (h : xz w B 4 x b1g tb gb dk 3 L 1) (hx : x.most = 8) : yV w B 8 x b2g tb gb dk 3 L 1 1 6 100 0 1 0 [] 100 1 := Zw h (by omega) (by omega) 1 (by decide) rfl (by show ((0 : Int) ≠ 1); omega) (by rw [hx]; show (1 : Int) < 8; omega)
theorem bs3 (h : xz w B N x g tb gb dk 3 L k) (hs : St g (xA la) (xA lb)) (hk : 0 ≤ k ∧ k < 1000) (hN : N ≤ 1000000) (hl : la.length ≤ 12) (z : Int) (hx : x.writes = 2000) : yV w B (N + 2) x (g.put 0 ⟨0, [], xA (la ++ [z])⟩) tb gb dk 3 L k 0 6 (24 + z % 16) 0 (vB z) 0 [] (24 + z % 16) (vB z) := by
  have hw := yY la
  have hv := JB z
  rw [Yh]
  exact Yo h hk hN 0 (by decide) (24 + z % 16) (vB z) (zaP z) (by omega) hs.sa 0 (xA la) hw.1 (by omega) hs.a hx
theorem bs4 (h : xz w B N x g tb gb dk 3 L k) (hs : St g (xA la) (xA lb)) (hk : 0 ≤ k ∧ k < 1000) (hN : N ≤ 1000000) (hl : lb.length ≤ 12) (z : Int) (hx : x.writes = 2000) : yV w B (N + 2) x (g.put 1 ⟨0, [], xA (lb ++ [z])⟩) tb gb dk 3 L k 1 6 (24 + z % 16) 0 (vB z) 0 [] (24 + z % 16) (vB z) := by
  have hw := yY lb
  have hv := JB z
  rw [Yh]
  exact Yo h hk hN 1 (by decide) (24 + z % 16) (vB z) (zaP z) (by omega) hs.sb 0 (xA lb) hw.1 (by omega) hs.b hx
structure Sd (g : Sg) (c : Int) (ch : Int × Int → List xU) (n : Int) (ws : List yg) : Prop where
  last : g.s.last = 1
  n : g.s.n = n
  most : g.s.most = 100000
  ch : g.s.ch = ch
  v : g.vs c = some ⟨0, [], ws⟩
  s : ((g.ses c).getD (0, 0, 0)).1 = 1
  sc : ((g.ses 2).getD (0, 0, 0)).1 = 0
structure Se (g : Sg) (ch : Int × Int → List xU) : Prop where
  last : g.s.last = 2
  ch : g.s.ch = ch
  sc : ((g.ses 2).getD (0, 0, 0)).1 = 0
theorem qE (g : Sg) (c q : Int) (ws : List yg) : (g.scommit c ⟨q, [], ws⟩).s = g.s.inst ws := rfl
theorem St.com0 (h : St g (xA la) (xA lb)) : Sd (g.scommit 0 ⟨0, [], xA la⟩) 1 (ch1 la) ((xA la).length : Int) (xA lb) := by
  refine ⟨?_, ?_, ?_, ?_, h.b, h.sb, h.sc⟩
  · rw [qE, h.s]; rfl
  · rw [qE, h.s]; show (0 : Int) + _ = _; omega
  · rw [qE, h.s]; rfl
  · rw [qE, h.s]; rfl
theorem St.com1 (h : St g (xA la) (xA lb)) : Sd (g.scommit 1 ⟨0, [], xA lb⟩) 0 (ch1 lb) ((xA lb).length : Int) (xA la) := by
  refine ⟨?_, ?_, ?_, ?_, h.a, h.sa, h.sc⟩
  · rw [qE, h.s]; rfl
  · rw [qE, h.s]; show (0 : Int) + _ = _; omega
  · rw [qE, h.s]; rfl
  · rw [qE, h.s]; rfl
theorem Sd.com {c n : Int} (hc : c = 0 ∨ c = 1) (h : Sd g c (ch1 la) n (xA lb)) : Se (g.scommit c ⟨0, [], xA lb⟩) (ch2 la lb) := by
  refine ⟨?_, ?_, ?_⟩
  · rw [qE]; show g.s.last + 1 = 2; rw [h.last]; rfl
  · rw [qE]; show qG g.s.ch (g.s.last + 1) (xA lb) = _; rw [h.last, h.ch]; rfl
  · rcases hc with rfl | rfl
    · exact h.sc
    · exact h.sc
theorem bs5 (h : xz w B N x g tb gb dk 3 L k) (hs : St g (xA la) (xA lb)) (hk : 0 ≤ k ∧ k < 1000) (hN : N ≤ 1000000) (hl : 1 ≤ la.length ∧ la.length ≤ 12) : yV w B (N + 1 + (xA la).length + 1) x (g.scommit 0 ⟨0, [], xA la⟩) tb gb dk 3 L k 0 6 100 0 2 0 [] 100 2 := by
  have hw := yY la
  exact kR h hk hN 0 (by decide) (by rw [hs.s]; exact fun k => ⟨List.Pairwise.nil, Nat.zero_le _⟩) hs.sa 0 (xA la) hs.a ⟨hw.1, Xq la hl.1, by omega⟩ (by rw [hs.s]; decide) (by rw [hs.s]; show (0 : Int) ≤ 0 ∧ 0 + ((xA la).length : Int) ≤ 100000 ∧ (100000 : Int) ≤ 1000000; omega)
theorem bs6 (h : xz w B N x g tb gb dk 3 L k) (hs : St g (xA la) (xA lb)) (hk : 0 ≤ k ∧ k < 1000) (hN : N ≤ 1000000) (hl : 1 ≤ lb.length ∧ lb.length ≤ 12) : yV w B (N + 1 + (xA lb).length + 1) x (g.scommit 1 ⟨0, [], xA lb⟩) tb gb dk 3 L k 1 6 100 0 2 0 [] 100 2 := by
  have hw := yY lb
  exact kR h hk hN 1 (by decide) (by rw [hs.s]; exact fun k => ⟨List.Pairwise.nil, Nat.zero_le _⟩) hs.sb 0 (xA lb) hs.b ⟨hw.1, Xq lb hl.1, by omega⟩ (by rw [hs.s]; decide) (by rw [hs.s]; show (0 : Int) ≤ 0 ∧ 0 + ((xA lb).length : Int) ≤ 100000 ∧ (100000 : Int) ≤ 1000000; omega)
theorem bs7 {c : Nat} (hc : c < 2) (h : xz w B N x g tb gb dk 3 L k) (hs : Sd g c (ch1 la) ((xA la).length : Int) (xA lb)) (hk : 0 ≤ k ∧ k < 1000) (hN : N ≤ 1000000) (ha : la.length ≤ 12) (hl : 1 ≤ lb.length ∧ lb.length ≤ 12) : yV w B (N + 1 + (xA lb).length + 1) x (g.scommit c ⟨0, [], xA lb⟩) tb gb dk 3 L k c 6 100 0 2 0 [] 100 2 := by
  have hw := yY lb
  have hv := yY la
  exact kR h hk hN c (by omega) (by rw [hs.ch]; exact zay la) hs.s 0 (xA lb) hs.v ⟨hw.1, Xq lb hl.1, by omega⟩ (by rw [hs.last]; decide) (by rw [hs.n, hs.most]; omega)
theorem bs8 (h : xz w B N x g tb gb dk 3 L k) (hs : Se g (ch2 la lb)) (hk : 0 ≤ k ∧ k < 1000) (hN : N ≤ 1000000) : yV w B (N + 1) x g tb gb dk 3 L k 2 3 24 16 0 0 (jI la lb) 0 0 :=
  Jy h hk hN 2 (by decide) (jI la lb) (WC la lb) (by rw [hs.ch]; exact zcR la lb) hs.sc (by rw [hs.ch, hs.last]; exact zbt la lb)
end
def jc (b : Nat) (F : Nat → Int) (W : World) : Prop := ∃ cs, W.heap[b]? = some (.cells cs 48 (0, 0)) ∧ cs.size = 32 ∧ ∀ i, i < 32 → cs[i]? = some (.int .i64 (F i))
theorem jc.cell {b : Nat} {F : Nat → Int} {W : World} (h : jc b F W) (i : Nat) (hi : i < 32) : W.cell? ⟨b, i, none⟩ = some (.int .i64 (F i)) ∧ W.frozen? ⟨b, i, none⟩ = false := by
  obtain ⟨cs, h1, h2, h3⟩ := h
  exact ⟨(za h1 i).trans (h3 i hi), zh h1 i⟩
theorem jc.below {b : Nat} {F : Nat → Int} {W W1 : World} (h : jc b F W) (hb : Below W.heap.size W W1) : jc b F W1 := by
  obtain ⟨cs, h1, h2, h3⟩ := h
  exact ⟨cs, zb h1 hb, h2, h3⟩
theorem jc.ch {b : Nat} {F : Nat → Int} {W W1 : World} {T M : List Nat} {B : Nat} (h : jc b F W) (hc : Ch T M B W W1) (ht : 48 ∉ T) : jc b F W1 := by
  obtain ⟨cs, h1, h2, h3⟩ := h
  exact ⟨cs, hc.cell h1 ht, h2, h3⟩
theorem jc.set {b : Nat} {F : Nat → Int} {W : World} (h : jc b F W) (i : Nat) (hi : i < 32) (v : Int) : jc b (fun k => if k = i then v else F k) (W.setCell ⟨b, i, none⟩ (.int .i64 v)) := by
  obtain ⟨cs, h1, h2, h3⟩ := h
  refine ⟨cs.setIfInBounds i (.int .i64 v), Go.YW.PrintWords.blk_set h1 i _, by simp [h2], fun k hk => ?_⟩
  rw [Array.getElem?_setIfInBounds]
  by_cases e : k = i
  · subst e
    rw [if_pos rfl, if_pos (by omega)]
    show some (Value.int .i64 v) = some (.int .i64 (if k = k then v else F k))
    rw [if_pos rfl]
  · rw [if_neg (fun h => e h.symm), h3 k hk]
    show some (Value.int .i64 (F k)) = some (.int .i64 (if k = i then v else F k))
    rw [if_neg e]
theorem xz.far {w : World} {B N : Nat} {x : Ix} {g : Sg} {tb gb dk n : Nat} {L : Nat → Nat → Nat} {k : Int} (h : xz w B N x g tb gb dk n L k) {b : Nat} {F : Nat → Int} (hl : jc b F w) (hB : B ≤ b) (i : Nat) (v : Value) : xz (w.setCell ⟨b, i, none⟩ v) B N x g tb gb dk n L k := by
  obtain ⟨cs, h1, _⟩ := hl
  have hc := Ch.set (T := [48]) (M := []) (i := i) h1 (by decide) hB (fun m hm => by cases hm) v
  exact ⟨hc.cell h.blk (by decide), h.gt.chT hc (by decide), h.le⟩
def kP (l m : List Int) (i : Nat) : Int := if i < 16 then yQ l (i : Int) else yQ m ((i : Int) - 16)
theorem zds (l m : List Int) (z : Int) : (fun k => if k = (z % 16).toNat then vB z + 1 else kP l m k) = kP (l ++ [z]) m := by
  funext k
  unfold kP
  have h0 := Int.emod_nonneg z (show (16 : Int) ≠ 0 by omega)
  have h1 := Int.emod_lt_of_pos z (show (0 : Int) < 16 by omega)
  by_cases e : k = (z % 16).toNat
  · rw [if_pos e, if_pos (by omega), kQ, if_pos (by omega)]
  · rw [if_neg e]
    split
    · rw [kQ, if_neg (by omega)]
    · rfl
theorem zdo (l m : List Int) (z : Int) : (fun k => if k = 16 + (z % 16).toNat then vB z + 1 else kP l m k) = kP l (m ++ [z]) := by
  funext k
  unfold kP
  have h0 := Int.emod_nonneg z (show (16 : Int) ≠ 0 by omega)
  have h1 := Int.emod_lt_of_pos z (show (0 : Int) < 16 by omega)
  by_cases e : k = 16 + (z % 16).toNat
  · rw [if_pos e, if_neg (by omega), kQ, if_pos (by omega)]
  · rw [if_neg e]
    split
    · rfl
    · rw [kQ, if_neg (by omega)]
theorem Wz (W : World) : jc W.heap.size (kP [] []) (W.alloc (.cells #[.int .i64 0, .int .i64 0, .int .i64 0, .int .i64 0, .int .i64 0, .int .i64 0, .int .i64 0, .int .i64 0, .int .i64 0, .int .i64 0, .int .i64 0, .int .i64 0, .int .i64 0, .int .i64 0, .int .i64 0, .int .i64 0, .int .i64 0, .int .i64 0, .int .i64 0, .int .i64 0, .int .i64 0, .int .i64 0, .int .i64 0, .int .i64 0, .int .i64 0, .int .i64 0, .int .i64 0, .int .i64 0, .int .i64 0, .int .i64 0, .int .i64 0, .int .i64 0] 48)) := by
  refine ⟨_, zi W _, rfl, fun i hi => ?_⟩
  have e : kP [] [] i = 0 := by unfold kP; split <;> rfl
  rw [e]
  show (Array.replicate 32 (Value.int .i64 0))[i]? = _
  rw [Array.getElem?_replicate, if_pos hi]
structure JW (B : Nat) (w0 : World) (ad : Addr) (j : Nat) (z : Int) (b tb gb dk : Nat) (L : Nat → Nat → Nat) (x : Ix) (k : Nat) (la lb : List Int) (W : World) : Prop where
  c : W.cell? (ad.add j) = some (.int .i64 z)
  t : ∃ g, St g (xA la) (xA lb) ∧ xz W B (8 + 2 * k) x g tb gb dk 3 L (2 + (k : Int))
  l : jc b (kP la lb) W
  e : Below w0.heap.size w0 W
theorem JW.below {B : Nat} {w0 : World} {ad : Addr} {j : Nat} {z : Int} {b tb gb dk : Nat} {L : Nat → Nat → Nat} {x : Ix} {k : Nat} {la lb : List Int} {W W1 : World} (h : JW B w0 ad j z b tb gb dk L x k la lb W) (hb : Below W.heap.size W W1) : JW B w0 ad j z b tb gb dk L x k la lb W1 := by
  obtain ⟨g, h1, h2⟩ := h.t
  exact ⟨cell_below h.c hb, ⟨g, h1, h2.below hb⟩, h.l.below hb, zf h.e h.e.size hb⟩
theorem zaH (l : List Int) (j : Nat) (h : j < l.length) : l[j]? = some (rd l (j : Int)) := by
  rw [List.getElem?_eq_getElem h]
  unfold rd
  simp [List.getD_eq_getElem?_getD, List.getElem?_eq_getElem h]
theorem VA {x : Int} (h : (Lit.int .i64 x).wf = true) : -9223372036854775808 ≤ x ∧ x < 9223372036854775808 := by
  have h2 : IntKind.i64.min ≤ x ∧ x ≤ 9223372036854775807 := by simpa [Lit.wf] using h
  have h3 : IntKind.i64.min = -9223372036854775808 := rfl
  omega
theorem VE (l m : List Int) (i : Nat) (h : i < 16) : kP l m i = yQ l (i : Int) := by
  unfold kP
  rw [if_pos h]
theorem Vq (l m : List Int) (i : Nat) : kP l m (16 + i) = yQ m (i : Int) := by
  unfold kP
  rw [if_neg (by omega)]
  congr 1
  omega
theorem Jn (l m : List Int) (i : Nat) (h : i < 16) : rd (jI l m) (i : Int) = qM l m (i : Int) := by
  have e := zaH (jI l m) i (by rw [jV]; exact h)
  rw [WN l m i h] at e
  exact (Option.some.inj e).symm
structure zbX (w0 : World) (b : Nat) (la lb l1 l2 : List Int) (gs : Nat) (A : Option Addr) (q : Nat) (W : World) : Prop where
  l : jc b (kP la lb) W
  s : W.cell? ⟨gs, 3, none⟩ = some (.slice A 16 q)
  c : Kd.C (Kd.int .u16) W A 16 (jI l1 l2)
  e : Below w0.heap.size w0 W
end Go.Proofs.YtlalbohhopmpdaaGreat.Top
