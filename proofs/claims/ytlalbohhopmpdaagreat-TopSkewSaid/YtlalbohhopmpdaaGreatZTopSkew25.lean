/- Words and walks for TopSkew (made of the session's own texts; each part by itself). -/
import Derived.Deep.DeepCutAuto
import Derived.Deep.DeepMust
import Derived.Deep.RegionLaw
import Derived.Test.YtlalbohhopmpdaaGreatZTopSkew15
set_option maxRecDepth 100000
set_option maxHeartbeats 8000000
set_option linter.unusedVariables false
set_option linter.unusedSimpArgs false
namespace Go.Proofs.YtlalbohhopmpdaaGreat.Top
open Go.RowKit Go.Proofs.YtlalbohhopmpdaaGreat.PTop Go.YW.PrintWords Go.YW.PrintLast Go.YW.PrintMore Go.Proofs.YtlalbohhopmpdaaGreat.Num
attribute [local go_sem] zm zu
def zaV (B N N' : Nat) (x : Ix) (g g' : Sg) (k a v : Int) : Prop := ∀ (w1 : World) (A : Option Addr) (c B3 : Nat), ym w1 B N x g → Kd.R qp 208 w1 B3 (fun _ => True) (.slice A 1 c) [⟨⟨2, a⟩, v⟩] →
  Calls Tryz.prog 181 #[.pointer (some ⟨x.ss, 0, none⟩), .int .i64 k, .slice A 1 c] w1 fun e w' => e = .returned (.int .i64 0) ∧ ym w' B N' x g' ∧ Ch TS (MS x) B w1 w'
def WI (B N N' : Nat) (x : Ix) (g g' : Sg) (k a b : Int) (n : Nat) (l : List Int) : Prop := ∀ (w1 : World), ym w1 B N x g →
  Calls Tryz.prog 180 #[.pointer (some ⟨x.ss, 0, none⟩), .int .i64 k, .agg #[.int .i64 2, .int .i64 a, .int .i64 b]] w1 fun e w' => ∃ A c, e = .returned (.tuple #[.slice A n c, .int .i64 0]) ∧ Kd.R (Kd.int .u16) 33 w' w1.heap.size (fun _ => True) (.slice A n c) l ∧ ym w' B N' x g' ∧ Ch TS (MS x) B w1 w'
theorem zcH (w : World) (B N N' : Nat) (x : Ix) (g g' : Sg) (h : ym w B N x g) (k a v : Int) (ha : 0 ≤ a ∧ a < 256) (hv : 0 ≤ v ∧ v < 65536) (hW : zaV B N N' x g g' k a v) (P4 : Option Addr) (c4 : Nat) :
    Calls Tryz.prog 144 #[.pointer (some ⟨x.ss, 0, none⟩), .int .i64 k, qd a v, .slice none 0 0, .slice P4 1 c4] w fun e w' => e = .returned (zT 6 0 (.slice none 0 0) a v) ∧ ym w' B N' x g' ∧ Ch TS (MS x) B w w' := by
  have hu41 := Tryz.underlying41
  have hu37 := Tryz.underlying37
  obtain ⟨W1, hW1⟩ : ∃ W1, W1 = (w.alloc (.cells (xB a v) 37)).alloc (.cells zY 41) := ⟨_, rfl⟩
  have B1 := hQ (show Below w.heap.size w W1 by rw [hW1]; exact ((Below.refl _ _).alloc (Nat.le_refl _) _).alloc (by simp) _)
  have X1 := hQ (show W1.heap[w.heap.size]? = some (.cells (xB a v) 37 (0, 0)) by rw [hW1]; exact zg (zi w _) _)
  have Y1 := hQ (show W1.heap[w.heap.size + 1]? = some (.cells zY 41 (0, 0)) by rw [hW1]; exact yx w _ _)
  rw [hW1] at B1 X1 Y1
  have H := hQ h
  have HW := hQ hW
  have HA := hQ ha
  have HV := hQ hv
  have hE := fun (w : World) => vv w a v ha hv
  have hC := fun (w : World) => zbB w a v ha hv
  clear h hW ha hv hW1
  simp only [zT, zI, qd, xB, zY] at B1 X1 Y1 hE hC ⊢
  go_enter Tryz.func144, Tryz.ntmps144
  go_wp2_with (fail)
  refine (hE _).mono ?_
  rintro e w2 ⟨rfl, hb⟩
  have B2 := hQ (ze B1.out B1.out.size hb)
  have X2 := hQ (zb X1.out hb)
  have Y2 := hQ (zb Y1.out hb)
  clear hb
  have B3 := hQ (B2.out.alloc B2.out.size (.cells #[.int .i64 6, .int .i64 0, .slice none 0 0, .slice none 0 0, .int .i64 a, .int .i64 0, .int .u16 v, .int .u16 0, .int .u16 0, .int .i64 0, .int .i64 0, .bool false, .int .i64 0, .slice none 0 0] 41))
  have X3 := hQ (zg X2.out (.cells #[.int .i64 6, .int .i64 0, .slice none 0 0, .slice none 0 0, .int .i64 a, .int .i64 0, .int .u16 v, .int .u16 0, .int .u16 0, .int .i64 0, .int .i64 0, .bool false, .int .i64 0, .slice none 0 0] 41))
  have Y3 := hQ (zg Y2.out (.cells #[.int .i64 6, .int .i64 0, .slice none 0 0, .slice none 0 0, .int .i64 a, .int .i64 0, .int .u16 v, .int .u16 0, .int .u16 0, .int .i64 0, .int .i64 0, .bool false, .int .i64 0, .slice none 0 0] 41))
  have Z3 := hQ (zi w2 (.cells #[.int .i64 6, .int .i64 0, .slice none 0 0, .slice none 0 0, .int .i64 a, .int .i64 0, .int .u16 v, .int .u16 0, .int .u16 0, .int .i64 0, .int .i64 0, .bool false, .int .i64 0, .slice none 0 0] 41))
  have SZ := hQ B2.out.size
  obtain ⟨x0, x1, x2, x3, x4, x5, x6, x7, x8, x9, x10, x11⟩ := zW X3.out
  go_wp2_with (fail)
  refine (hC _).mono ?_
  rintro e w4 ⟨A, c, rfl, hr, hb⟩
  have B4 := hQ (ze B3.out B3.out.size hb)
  have X4 := hQ (zb X3.out hb)
  have Y4 := hQ (zb Y3.out hb)
  have Z4 := hQ (zb Z3.out hb)
  have R4 := hQ hr
  clear hb hr x0 x1 x2 x3 x4 x5 x6 x7 x8 x9 x10 x11 hE hC
  go_wp2_with (fail)
  refine (HW.out _ A c _ (H.out.below B4.out) R4.out).mono ?_
  rintro e w5 ⟨rfl, hs, hc⟩
  have L5 := hQ ((Loc.mk' H.out B4.out Y4.out Z4.out (by omega) SZ.out (by decide) (by decide)).step hs hc)
  have X5 := hQ (hc.cell X4.out (by decide))
  have Y5 := hQ (hc.cell Y4.out (by decide))
  have Z5 := hQ (hc.cell Z4.out (by decide))
  clear hs hc
  obtain ⟨x0, x1, x2, x3, x4, x5, x6, x7, x8, x9, x10, x11⟩ := zW X5.out
  obtain ⟨y0, y1, y2, y3, y4, y5, y6, y7, y8, y9, y10, y11, y12, y13⟩ := yn Y5.out
  obtain ⟨z0, z1, z2, z3, z4, z5, z6, z7, z8, z9, z10, z11, z12, z13⟩ := yn Z5.out
  have fy : ∀ i, w5.frozen? ⟨w.heap.size + 1, i, none⟩ = false := fun i => zh Y5.out i
  go_wp2
  refine bodyPost_ret (v := .agg #[.int .i64 6, .int .i64 0, .slice none 0 0, .slice none 0 0, .int .i64 a, .int .i64 0, .int .u16 v, .int .u16 0, .int .u16 0, .int .i64 0, .int .i64 0, .bool false, .int .i64 0, .slice none 0 0]) ?_ rfl ⟨rfl, ?_⟩
  · simp [results, Tryz.results144, go_sem, hu41, y0, y1, y2, y3, y4, y5, y6, y7, y8, y9, y10, y11, y12, y13]
  · refine And.intro (Loc.slv (w0 := w) (b1 := w.heap.size + 1) (b2 := w2.heap.size) ?_) (Loc.ch (g := g') (N := N') (b1 := w.heap.size + 1) (b2 := w2.heap.size) ?_)
    all_goals (repeat (with_reducible first | exact L5.out | (refine Loc.set ?_ (by first | exact Or.inl rfl | exact Or.inr rfl))))
theorem zcC (w : World) (B N N' : Nat) (x : Ix) (g g' : Sg) (h : ym w B N x g) (k a b : Int) (n : Nat) (l : List Int) (hl : l.length = n) (ha : 0 ≤ a ∧ a < 256) (hn : 1 ≤ n ∧ n ≤ 16) (hR : WI B N N' x g g' k a b n l) (gr cr : Nat) (hg : w.heap[gr]? = some (.cells #[.int .i64 2, .int .i64 a, .int .i64 b] 78 (0, 0))) :
    Calls Tryz.prog 144 #[.pointer (some ⟨x.ss, 0, none⟩), .int .i64 k, jf a n, .slice (some ⟨gr, 0, none⟩) 1 cr, .slice none 0 0] w fun e w' => ∃ A c, e = .returned (zT 3 0 (.slice A n c) 0 0) ∧ n ≤ c ∧ Kd.F (Kd.int .u16) w' (fun k => w.heap.size ≤ k) A n l ∧ ym w' B N' x g' ∧ Ch TS (MS x) B w w' := by
  have hu41 := Tryz.underlying41
  have hu37 := Tryz.underlying37
  have hu78 := Tryz.underlying78
  obtain ⟨W1, hW1⟩ : ∃ W1, W1 = (w.alloc (.cells (qy a n) 37)).alloc (.cells zY 41) := ⟨_, rfl⟩
  have B1 := hQ (show Below w.heap.size w W1 by rw [hW1]; exact ((Below.refl _ _).alloc (Nat.le_refl _) _).alloc (by simp) _)
  have X1 := hQ (show W1.heap[w.heap.size]? = some (.cells (qy a n) 37 (0, 0)) by rw [hW1]; exact zg (zi w _) _)
  have Y1 := hQ (show W1.heap[w.heap.size + 1]? = some (.cells zY 41 (0, 0)) by rw [hW1]; exact yx w _ _)
  have G1 := hQ (zb hg B1.out)
  rw [hW1] at B1 X1 Y1 G1
  have H := hQ h
  have HR := hQ hR
  have HL := hQ hl
  have HN := hQ hn
  have hE := fun (w : World) => Jw w a n ha (by omega)
  clear h hR ha hn hW1 hg hl
  simp only [zT, zI, jf, qy, zY] at B1 X1 Y1 hE ⊢
  go_enter Tryz.func144, Tryz.ntmps144
  go_wp2_with (fail)
  refine (hE _).mono ?_
  rintro e w2 ⟨rfl, hb⟩
  have B2 := hQ (ze B1.out B1.out.size hb)
  have X2 := hQ (zb X1.out hb)
  have Y2 := hQ (zb Y1.out hb)
  have G2 := hQ (zb G1.out hb)
  clear hb hE
  have B3 := hQ (B2.out.alloc B2.out.size (.cells #[.int .i64 0, .int .i64 0, .slice none 0 0, .slice none 0 0, .int .i64 0, .int .i64 0, .int .u16 0, .int .u16 0, .int .u16 0, .int .i64 0, .int .i64 0, .bool false, .int .i64 0, .slice none 0 0] 41))
  have X3 := hQ (zg X2.out (.cells #[.int .i64 0, .int .i64 0, .slice none 0 0, .slice none 0 0, .int .i64 0, .int .i64 0, .int .u16 0, .int .u16 0, .int .u16 0, .int .i64 0, .int .i64 0, .bool false, .int .i64 0, .slice none 0 0] 41))
  have Y3 := hQ (zg Y2.out (.cells #[.int .i64 0, .int .i64 0, .slice none 0 0, .slice none 0 0, .int .i64 0, .int .i64 0, .int .u16 0, .int .u16 0, .int .u16 0, .int .i64 0, .int .i64 0, .bool false, .int .i64 0, .slice none 0 0] 41))
  have Z3 := hQ (zi w2 (.cells #[.int .i64 0, .int .i64 0, .slice none 0 0, .slice none 0 0, .int .i64 0, .int .i64 0, .int .u16 0, .int .u16 0, .int .u16 0, .int .i64 0, .int .i64 0, .bool false, .int .i64 0, .slice none 0 0] 41))
  have G3 := hQ (zg G2.out (.cells #[.int .i64 0, .int .i64 0, .slice none 0 0, .slice none 0 0, .int .i64 0, .int .i64 0, .int .u16 0, .int .u16 0, .int .u16 0, .int .i64 0, .int .i64 0, .bool false, .int .i64 0, .slice none 0 0] 41))
  have SZ := hQ B2.out.size
  obtain ⟨x0, x1, x2, x3, x4, x5, x6, x7, x8, x9, x10, x11⟩ := zW X3.out
  have i0 : (w2.alloc (.cells #[.int .i64 0, .int .i64 0, .slice none 0 0, .slice none 0 0, .int .i64 0, .int .i64 0, .int .u16 0, .int .u16 0, .int .u16 0, .int .i64 0, .int .i64 0, .bool false, .int .i64 0, .slice none 0 0] 41)).cell? ⟨gr, 0, none⟩ = some (.int .i64 2) := za G3.out 0
  have i1 : (w2.alloc (.cells #[.int .i64 0, .int .i64 0, .slice none 0 0, .slice none 0 0, .int .i64 0, .int .i64 0, .int .u16 0, .int .u16 0, .int .u16 0, .int .i64 0, .int .i64 0, .bool false, .int .i64 0, .slice none 0 0] 41)).cell? ⟨gr, 1, none⟩ = some (.int .i64 a) := za G3.out 1
  have i2 : (w2.alloc (.cells #[.int .i64 0, .int .i64 0, .slice none 0 0, .slice none 0 0, .int .i64 0, .int .i64 0, .int .u16 0, .int .u16 0, .int .u16 0, .int .i64 0, .int .i64 0, .bool false, .int .i64 0, .slice none 0 0] 41)).cell? ⟨gr, 2, none⟩ = some (.int .i64 b) := za G3.out 2
  go_wp2_with (fail)
  refine (HR.out _ (H.out.below B3.out)).mono ?_
  rintro e w4 ⟨A, c, rfl, hr, hs, hc⟩
  have L4 := hQ ((Loc.mk' H.out B3.out Y3.out Z3.out (by omega) SZ.out (by decide) (by decide)).step hs hc)
  have X4 := hQ (hc.cell X3.out (by decide))
  have Y4 := hQ (hc.cell Y3.out (by decide))
  have Z4 := hQ (hc.cell Z3.out (by decide))
  have R4 := hQ (Kd.zw hr)
  clear hs hc hr x0 x1 x2 x3 x4 x5 x6 x7 x8 x9 x10 x11 i0 i1 i2
  obtain ⟨x0, x1, x2, x3, x4, x5, x6, x7, x8, x9, x10, x11⟩ := zW X4.out
  go_wp2_with (fail)
  refine (Yl w4 A c l n HL.out (by have := R4.out.2.2; rwa [HL.out] at this) R4.out.2.1 (by have := HN.out; omega)).mono ?_
  rintro e w5 ⟨A5, c5, rfl, hC5, hc5, hb⟩
  have L5 := hQ (L4.out.below hb)
  have X5 := hQ (zb X4.out hb)
  have Y5 := hQ (zb Y4.out hb)
  have Z5 := hQ (zb Z4.out hb)
  have F5 := hQ hC5
  have C5 := hQ hc5
  have S1 := hQ (zF Y4.out)
  have S2 := hQ (zF Z4.out)
  simp only [zT, zI]
  clear hb hC5 hc5 x0 x1 x2 x3 x4 x5 x6 x7 x8 x9 x10 x11
  obtain ⟨y0, y1, y2, y3, y4, y5, y6, y7, y8, y9, y10, y11, y12, y13⟩ := yn Y5.out
  obtain ⟨z0, z1, z2, z3, z4, z5, z6, z7, z8, z9, z10, z11, z12, z13⟩ := yn Z5.out
  have fy : ∀ i, w5.frozen? ⟨w.heap.size + 1, i, none⟩ = false := fun i => zh Y5.out i
  have fz : ∀ i, w5.frozen? ⟨w2.heap.size, i, none⟩ = false := fun i => zh Z5.out i
  have hne : w2.heap.size ≠ w.heap.size + 1 := by have := zF Y2.out; omega
  go_wp2
  refine bodyPost_ret (v := .agg #[.int .i64 3, .int .i64 0, .slice none 0 0, .slice A5 n c5, .int .i64 0, .int .i64 0, .int .u16 0, .int .u16 0, .int .u16 0, .int .i64 0, .int .i64 0, .bool false, .int .i64 0, .slice none 0 0]) ?_ rfl ⟨A5, c5, rfl, C5.out, ?_, ?_⟩
  · simp [results, Tryz.results144, go_sem, hu41, y0, y1, y2, y3, y4, y5, y6, y7, y8, y9, y10, y11, y12, y13]
  · have s1 := S1.out
    refine Kd.qx (ok := fun k => w4.heap.size ≤ k) ?_ (fun k hk => by omega)
    have s2 := S2.out
    repeat (with_reducible first | exact F5.out | (refine jR ?_ (by omega)))
  · refine And.intro (Loc.slv (w0 := w) (b1 := w.heap.size + 1) (b2 := w2.heap.size) ?_) (Loc.ch (g := g') (N := N') (b1 := w.heap.size + 1) (b2 := w2.heap.size) ?_)
    all_goals (repeat (with_reducible first | exact L5.out | (refine Loc.set ?_ (by first | exact Or.inl rfl | exact Or.inr rfl))))
theorem zdN (w : World) (B N N' : Nat) (x : Ix) (g g' : Sg) (h : ym w B N x g) (m gr o : Value) (hcfg : qF w m gr) (k : Int) (hk : (Lit.int .i64 k).wf = true) (s1 s2 s3 : Int) (hses : (g.ses k).getD (0, 0, 0) = (s1, s2, s3)) (hs2 : s1 ≠ 2) (a : Int) (n : Nat) (l : List Int) (hl : l.length = n) (ha : 0 ≤ a ∧ a < 256) (hn : 1 ≤ n ∧ n ≤ 16) (hwd : kN 2 a (a + (n : Int)) 1) (hR : WI B N N' x g g' k a (a + (n : Int)) n l) :
    Calls Tryz.prog 107 #[.pointer (some ⟨x.ss, 0, none⟩), .agg (xA m gr o), .int .i64 k, .agg #[.int .i64 3, .int .i64 a, .int .i64 (n : Int), .int .u16 0, .int .u16 0, .int .u16 0, .slice none 0 0, .slice none 0 0, .int .i64 0, .int .i64 0, .int .i64 0, .int .i64 0]] w fun e w' => ∃ A c, e = .returned (zT 3 0 (.slice A n c) 0 0) ∧ n ≤ c ∧ Kd.F (Kd.int .u16) w' (fun k => w.heap.size ≤ k) A n l ∧ ym w' B N' x g' ∧ Ch TS (MS x) B w w' := by
  have hu41 := Tryz.underlying41
  have hu37 := Tryz.underlying37
  have hu30 := Tryz.underlying30
  have hf189 := jE
  have hmf : ∀ (fn : Fn) (first cap : Array Value) (w : World), (Instr.makeFunc fn first cap).run Tryz.prog w = .ok (.func fn first cap) w := fun _ _ _ _ => rfl
  obtain ⟨W1, hW1⟩ : ∃ W1, W1 = ((w.alloc (.cells (xA m gr o) 30)).alloc (.cells #[.int .i64 3, .int .i64 a, .int .i64 (n : Int), .int .u16 0, .int .u16 0, .int .u16 0, .slice none 0 0, .slice none 0 0, .int .i64 0, .int .i64 0, .int .i64 0, .int .i64 0] 37)).alloc (.cells zY 41) := ⟨_, rfl⟩
  have B1 := hQ (show Below w.heap.size w W1 by rw [hW1]; exact ((((Below.refl _ _).alloc (Nat.le_refl _) _).alloc (by simp) _).alloc (by simp; omega) _))
  have K1 := hQ (show W1.heap[w.heap.size]? = some (.cells (xA m gr o) 30 (0, 0)) by rw [hW1]; exact zg (zg (zi w _) _) _)
  have X1 := hQ (show W1.heap[w.heap.size + 1]? = some (.cells #[.int .i64 3, .int .i64 a, .int .i64 (n : Int), .int .u16 0, .int .u16 0, .int .u16 0, .slice none 0 0, .slice none 0 0, .int .i64 0, .int .i64 0, .int .i64 0, .int .i64 0] 37 (0, 0)) by rw [hW1]; exact zg (yx w _ _) _)
  have Y1 := hQ (show W1.heap[w.heap.size + 1 + 1]? = some (.cells zY 41 (0, 0)) by rw [hW1]; have := yx (w.alloc (.cells (xA m gr o) 30)) (.cells #[.int .i64 3, .int .i64 a, .int .i64 (n : Int), .int .u16 0, .int .u16 0, .int .u16 0, .slice none 0 0, .slice none 0 0, .int .i64 0, .int .i64 0, .int .i64 0, .int .i64 0] 37) (.cells zY 41); rwa [show (w.alloc (.cells (xA m gr o) 30)).heap.size = w.heap.size + 1 by simp] at this)
  have F1 := hQ (hcfg.below B1.out)
  rw [hW1] at B1 K1 X1 Y1 F1
  have H := hQ h
  have hS := fun (W : World) (hW : ym W B N x g) => Zv W B N x.ss x.en x.bk x.ms x.ticks g.ses hW.ss k hk
  rw [hses] at hS
  dsimp only at hS
  have HS := hQ hS
  have hd1 : decide (s1 = 2) = false := dF hs2
  have hd2 : (s1 == 2) = false := beq_false_of_ne hs2
  clear hS hses
  have HR := hQ hR
  have HA := hQ ha
  have HN := hQ hn
  have HWD := hQ hwd
  have HL := hQ hl
  clear hR ha hn hwd hl
  clear h hW1 hcfg
  simp only [xA, zY] at B1 K1 X1 Y1 F1 ⊢
  obtain ⟨x0, x1, x2, x3, x4, x5, x6, x7, x8, x9, x10, x11⟩ := zW X1.out
  go_enter Tryz.func107, Tryz.ntmps107
  go_wp2_with (fail)
  refine (jC _ a n HA.out (by have := HN.out; omega)).mono ?_
  rintro e w2 ⟨rfl, hb⟩
  have B2 := hQ (ze B1.out B1.out.size hb)
  have K2 := hQ (zb K1.out hb)
  have X2 := hQ (zb X1.out hb)
  have Y2 := hQ (zb Y1.out hb)
  have F2 := hQ (F1.out.below hb)
  clear hb x0 x1 x2 x3 x4 x5 x6 x7 x8 x9 x10 x11
  obtain ⟨x0, x1, x2, x3, x4, x5, x6, x7, x8, x9, x10, x11⟩ := zW X2.out
  go_wp2_with (fail)
  refine (Yc _ a n HA.out (by have := HN.out; omega)).mono ?_
  rintro e w3 ⟨gs, rfl, hgs, hsz, hb⟩
  have B3 := hQ (ze B2.out B2.out.size hb)
  have K3 := hQ (zb K2.out hb)
  have X3 := hQ (zb X2.out hb)
  have Y3 := hQ (zb Y2.out hb)
  have F3 := hQ (F2.out.below hb)
  have G3 := hQ (show w3.heap[gs]? = some (.cells #[.int .i64 2, .int .i64 a, .int .i64 (a + (n : Int))] 78 (0, 0)) from hgs)
  clear hb x0 x1 x2 x3 x4 x5 x6 x7 x8 x9 x10 x11 hgs hsz
  have B4 := hQ (B3.out.alloc B3.out.size (.cells #[.slice (some ⟨gs, 0, none⟩) 1 1, .slice none 0 0] 25))
  have K4 := hQ (zg K3.out (.cells #[.slice (some ⟨gs, 0, none⟩) 1 1, .slice none 0 0] 25))
  have X4 := hQ (zg X3.out (.cells #[.slice (some ⟨gs, 0, none⟩) 1 1, .slice none 0 0] 25))
  have Y4 := hQ (zg Y3.out (.cells #[.slice (some ⟨gs, 0, none⟩) 1 1, .slice none 0 0] 25))
  have G4 := hQ (zg G3.out (.cells #[.slice (some ⟨gs, 0, none⟩) 1 1, .slice none 0 0] 25))
  have F4 := hQ (F3.out.below (zn (Below.refl _ _) (.cells #[.slice (some ⟨gs, 0, none⟩) 1 1, .slice none 0 0] 25)))
  go_wp2_with (fail)
  refine (Jb _ w3.heap.size gs 2 a (a + (n : Int)) (zi w3 (.cells #[.slice (some ⟨gs, 0, none⟩) 1 1, .slice none 0 0] 25)) (zba G4.out)).mono ?_
  rintro e w5 ⟨A5, c5, rfl, hr, hb⟩
  have B5 := hQ (ze B4.out B4.out.size hb)
  have K5 := hQ (zb K4.out hb)
  have X5 := hQ (zb X4.out hb)
  have Y5 := hQ (zb Y4.out hb)
  have G5 := hQ (zb G4.out hb)
  have F5 := hQ (F4.out.below hb)
  have R5 := hQ hr
  clear hb hr
  go_wp2_with (fail)
  go_at_call 138
  refine (Yg w5 w.heap.size 0).mono ?_
  rintro e w5' ⟨rfl, rfl⟩
  have C6 := hQ ((F5.out.below (zn (Below.refl _ _) (.cells #[.int .i64 0] 3))).at (zg K5.out (.cells #[.int .i64 0] 3)))
  obtain ⟨g5, rfl, i0, i1, i2⟩ := jm (Kd.xO R5.out (.cells #[.int .i64 0] 3))
  go_wp2_with (fail)
  refine (qj _ g5 c5 w.heap.size w5.heap.size 0 2 a (a + (n : Int)) 1 i0 i1 i2 C6.out (za (zi w5 (.cells #[.int .i64 0] 3)) 0) HWD.out).mono ?_
  rintro e w6 ⟨rfl, hb⟩
  have hz5 : w5.heap.size ≤ (w5.alloc (.cells #[.int .i64 0] 3)).heap.size := by simp
  have hb5 := ((Below.refl _ _).alloc (Nat.le_refl _) (.cells #[.int .i64 0] 3)).trans (hb.mono hz5)
  have B6 := hQ (ze B5.out B5.out.size hb5)
  have K6 := hQ (zb K5.out hb5)
  have X6 := hQ (zb X5.out hb5)
  have Y6 := hQ (zb Y5.out hb5)
  have G6 := hQ (zb G5.out hb5)
  have F6 := hQ (F5.out.below hb5)
  have R6 := hQ (Kd.zy R5.out hb5)
  clear hb hb5 i0 i1 i2 C6 hz5
  have e0 : ((1 : Int) == 0) = false := by decide
  rw [e0]
  go_wp2_with (fail)
  go_at_call 138
  refine (Yg w6 w.heap.size 2).mono ?_
  rintro e w6' ⟨rfl, rfl⟩
  have C7 := hQ ((F6.out.below (zn (Below.refl _ _) (.cells #[.int .i64 2] 3))).at (zg K6.out (.cells #[.int .i64 2] 3)))
  obtain ⟨g6, eg, i0, i1, i2⟩ := jm (Kd.xO R6.out (.cells #[.int .i64 2] 3))
  cases eg
  go_wp2_with (fail)
  refine (qj _ g5 c5 w.heap.size w6.heap.size 2 2 a (a + (n : Int)) 1 i0 i1 i2 C7.out (za (zi w6 (.cells #[.int .i64 2] 3)) 0) HWD.out).mono ?_
  rintro e w7 ⟨rfl, hb⟩
  have hz6 : w6.heap.size ≤ (w6.alloc (.cells #[.int .i64 2] 3)).heap.size := by simp
  have hb6 := ((Below.refl _ _).alloc (Nat.le_refl _) (.cells #[.int .i64 2] 3)).trans (hb.mono hz6)
  have B7 := hQ (ze B6.out B6.out.size hb6)
  have K7 := hQ (zb K6.out hb6)
  have X7 := hQ (zb X6.out hb6)
  have Y7 := hQ (zb Y6.out hb6)
  have G7 := hQ (zb G6.out hb6)
  have F7 := hQ (F6.out.below hb6)
  clear hb hb6 i0 i1 i2 C7 hz6 R5 R6
  have e2 : ((1 : Int) == 2) = false := by decide
  rw [e2]
  obtain ⟨x0, x1, x2, x3, x4, x5, x6, x7, x8, x9, x10, x11⟩ := zW X7.out
  have k2 : w7.cell? ⟨w.heap.size, 2, none⟩ = some (.int .i64 100) := za K7.out 2
  go_wp2_with (fail)
  refine (Qx _ _).mono ?_
  rintro e w8 ⟨rfl, hb⟩
  have B8 := hQ (ze B7.out B7.out.size hb)
  have X8 := hQ (zb X7.out hb)
  have Y8 := hQ (zb Y7.out hb)
  have G8 := hQ (zb G7.out hb)
  clear hb x0 x1 x2 x3 x4 x5 x6 x7 x8 x9 x10 x11
  go_wp2_with (fail)
  refine (HS.out _ (H.out.below B8.out)).mono ?_
  rintro e w9 ⟨rfl, hb⟩
  have B9 := hQ (ze B8.out B8.out.size hb)
  have X9 := hQ (zb X8.out hb)
  have Y9 := hQ (zb Y8.out hb)
  have G9 := hQ (zb G8.out hb)
  clear hb
  obtain ⟨x0, x1, x2, x3, x4, x5, x6, x7, x8, x9, x10, x11⟩ := zW X9.out
  go_wp2_with (fail)
  refine (zcC w9 B N N' x g g' (H.out.below B9.out) k a (a + (n : Int)) n l HL.out HA.out HN.out HR.out gs 1 G9.out).mono ?_
  rintro e w10 ⟨A, c, rfl, hcc, hF, hs, hc⟩
  have F8 := hQ hF
  have S1 := hQ (zF Y9.out)
  have Y8 := hQ (hc.cell Y9.out (by decide))
  have L8 := hQ ((Loc.mk' H.out B9.out Y9.out Y9.out (by omega) (by omega) (by decide) (by decide)).step hs hc)
  obtain ⟨y0, y1, y2, y3, y4, y5, y6, y7, y8, y9, y10, y11, y12, y13⟩ := yn Y8.out
  have fy : ∀ i, w10.frozen? ⟨w.heap.size + 1 + 1, i, none⟩ = false := fun i => zh Y8.out i
  simp only [zT, zI]
  go_wp2
  refine bodyPost_ret (v := .agg #[.int .i64 3, .int .i64 0, .slice none 0 0, .slice A n c, .int .i64 0, .int .i64 0, .int .u16 0, .int .u16 0, .int .u16 0, .int .i64 0, .int .i64 0, .bool false, .int .i64 0, .slice none 0 0]) ?_ rfl ⟨A, c, rfl, hcc, ?_, ?_⟩
  · simp [results, Tryz.results107, go_sem, hu41, y0, y1, y2, y3, y4, y5, y6, y7, y8, y9, y10, y11, y12, y13]
  · have s1 := S1.out
    refine Kd.qx (ok := fun k => w9.heap.size ≤ k) ?_ (fun k hk => by omega)
    repeat (with_reducible first | exact F8.out | (refine jR ?_ (by omega)))
  · refine And.intro (Loc.slv (w0 := w) (b1 := w.heap.size + 1 + 1) (b2 := w.heap.size + 1 + 1) ?_) (Loc.ch (g := g') (N := N') (b1 := w.heap.size + 1 + 1) (b2 := w.heap.size + 1 + 1) ?_)
    all_goals (repeat (with_reducible first | exact L8.out | (refine Loc.set ?_ (Or.inl rfl))))
open Go.Proofs.YtlalbohhopmpdaaGreat.Tiny
theorem zcU (s : Int) : yc.f 9 s 4 false = some ([IntKind.u16.wrap (shr .u64 s 48), IntKind.u16.wrap (shr .u64 s 32), IntKind.u16.wrap (shr .u64 s 16), IntKind.u16.wrap (shr .u64 s 0)], true) := by kernel_rfl
theorem zc2 (a b c s : Int) (ha : 0 ≤ a ∧ a < 65536) (hb : 0 ≤ b ∧ b < 65536) : qg.f 9 a b c s 1 3 = some [a, b] := by
  unfold qg.f
  rw [if_neg (by decide), if_neg (by decide), if_neg (by decide), zcU s, Option.bind_some]
  have h1 : IntKind.u16.wrap a = a := by show a % 65536 = a; omega
  have h2 : IntKind.u16.wrap b = b := by show b % 65536 = b; omega
  show some [IntKind.u16.wrap a, IntKind.u16.wrap b] = some [a, b]
  rw [h1, h2]
theorem VW (w : World) (B N : Nat) (x : Ix) (g : Sg) (h : ym w B N x g) (k : Int) (hk : (Lit.int .i64 k).wf = true) (s1 s2 s3 : Int) (hses : (g.ses k).getD (0, 0, 0) = (s1, s2, s3)) (h1 : 0 ≤ s1 ∧ s1 < 65536) (h2 : 0 ≤ s2 ∧ s2 < 65536) :
    Calls Tryz.prog 142 #[.pointer (some ⟨x.ss, 0, none⟩), .int .i64 100, .int .i64 k, jf 101 2] w fun e w' => ∃ A c, e = .returned (zT 3 0 (.slice A 2 c) 0 0) ∧ 2 ≤ c ∧ Kd.F (Kd.int .u16) w' (fun k => w.heap.size ≤ k) A 2 [s1, s2] ∧ Below w.heap.size w w' := by
  have hu41 := Tryz.underlying41
  have hu37 := Tryz.underlying37
  obtain ⟨W1, hW1⟩ : ∃ W1, W1 = ((w.alloc (.cells (qy 101 2) 37)).alloc (.cells zY 41)).drew := ⟨_, rfl⟩
  have B1 := hQ (show Below w.heap.size w W1 by rw [hW1]; exact zk (((Below.refl _ _).alloc (Nat.le_refl _) _).alloc (by simp) _))
  have X1 := hQ (show W1.heap[w.heap.size]? = some (.cells (qy 101 2) 37 (0, 0)) by rw [hW1]; exact zo (zg (zi w _) _))
  have Y1 := hQ (show W1.heap[w.heap.size + 1]? = some (.cells zY 41 (0, 0)) by rw [hW1]; exact zo (yx w _ _))
  have H1 := hQ (h.below B1.out)
  rw [hW1] at B1 X1 Y1 H1
  have hS := fun (W : World) (hW : ym W B N x g) => Zv W B N x.ss x.en x.bk x.ms x.ticks g.ses hW.ss k hk
  rw [hses] at hS
  have HS := hQ hS
  have HC := hQ (show qg.f 9 s1 s2 x.ticks s3 (wrap64 1) (wrap64 (wrap64 1 + 2)) = some [s1, s2] by rw [show wrap64 1 = 1 from zA (by omega) (by omega), show wrap64 (1 + 2) = 3 from zA (by omega) (by omega)]; exact zc2 s1 s2 x.ticks s3 h1 h2)
  clear h hW1 hS h1 h2 hses
  simp only [jf, qy, zY, zT, zI] at B1 X1 Y1 ⊢
  go_enter Tryz.func142, Tryz.ntmps142
  go_wp2_with (fail)
  refine sq_ (ds := [18]) #[false, false, false, false, false, false, false, false, false, false, false, false, false, false, false, false, false, false, false] (fun w' => w'.cell? ⟨w.heap.size, 0, none⟩ = some (.int .i64 3) ∧ w'.cell? ⟨w.heap.size, 1, none⟩ = some (.int .i64 101) ∧ w'.cell? ⟨w.heap.size, 2, none⟩ = some (.int .i64 2) ∧ w'.cell? ⟨w.heap.size, 3, none⟩ = some (.int .u16 0) ∧ w'.cell? ⟨w.heap.size, 4, none⟩ = some (.int .u16 0) ∧ w'.cell? ⟨w.heap.size, 5, none⟩ = some (.int .u16 0) ∧ w'.cell? ⟨w.heap.size, 6, none⟩ = some (.slice none 0 0) ∧ w'.cell? ⟨w.heap.size, 7, none⟩ = some (.slice none 0 0) ∧ w'.cell? ⟨w.heap.size, 8, none⟩ = some (.int .i64 0) ∧ w'.cell? ⟨w.heap.size, 9, none⟩ = some (.int .i64 0) ∧ w'.cell? ⟨w.heap.size, 10, none⟩ = some (.int .i64 0) ∧ w'.cell? ⟨w.heap.size, 11, none⟩ = some (.int .i64 0)) ⟨za X1.out 0, za X1.out 1, za X1.out 2, za X1.out 3, za X1.out 4, za X1.out 5, za X1.out 6, za X1.out 7, za X1.out 8, za X1.out 9, za X1.out 10, za X1.out 11⟩ (fun hHeld => ?_)
  refine pq_ 0 (some 16) ?_
  refine pq_ 2 (some 18) ?_
  refine pq_ 3 (some 19) ?_
  refine pq_ 5 (some 21) ?_
  refine pq_ 7 (some 23) ?_
  refine pq_ 9 (some 25) ?_
  refine pq_ 11 (some 27) ?_
  refine pq_ 13 (some 29) ?_
  refine tq_ 1 (some 17) hHeld ?_
  refine tq_ 6 (some 22) hHeld ?_
  refine pq_ 8 (some 24) ?_
  refine tq_ 10 (some 26) hHeld ?_
  refine pq_ 12 (some 28) ?_
  refine tq_ 14 (some 30) hHeld ?_
  refine pq_ 15 (some 31) ?_
  refine oq_ 4 (some 20) (fun K hK => ?_)
  refine yo Tryz.func143 (by kernel_rfl) rfl #[.pointer (some ⟨x.ss, 0, none⟩), .int .i64 k] (by rfl) rfl rfl (by (try simp only [List.map_toArray, List.map_cons, List.map_nil]); first | done | rfl) ?_
  refine (HS.out _ H1.out).mono ?_
  rintro e w2 ⟨rfl, hb⟩
  refine ⟨_, rfl, ?_⟩
  have B2 := hQ (ze B1.out B1.out.size hb)
  have X2 := hQ (zb X1.out hb)
  have Y2 := hQ (zb Y1.out hb)
  clear hb
  refine hK.out _ _ ⟨za X2.out 0, za X2.out 1, za X2.out 2, za X2.out 3, za X2.out 4, za X2.out 5, za X2.out 6, za X2.out 7, za X2.out 8, za X2.out 9, za X2.out 10, za X2.out 11⟩ (fun hHeld => ?_)
  clear hK K
  refine nq_ ?_
  refine oq_ 16 (some 32) (fun K hK => ?_)
  refine yo Tryz.func176 (by kernel_rfl) rfl #[.agg #[.int .i64 s1, .int .i64 s2, .int .i64 x.ticks, .int .u64 s3], .int .i64 (wrap64 1), .int .i64 (wrap64 (wrap64 1 + 2))] (by rfl) rfl rfl (by (try simp only [List.map_toArray, List.map_cons, List.map_nil]); first | done | rfl) ?_
  refine (qg.calls 9 s1 s2 x.ticks s3 (wrap64 1) (wrap64 (wrap64 1 + 2)) [s1, s2] _ HC.out).mono ?_
  rintro e w3 ⟨v0, rfl, hr, hb⟩
  refine ⟨_, rfl, ?_⟩
  obtain ⟨A3, c3, hv0⟩ := Kd.zX hr
  have hv0' : v0 = .slice A3 2 c3 := hv0
  clear hv0
  subst hv0'
  have R3 := hQ (Kd.zw hr)
  clear hr
  have hT := Yl w3 A3 c3 [s1, s2] 2 rfl R3.out.2.2 R3.out.2.1 (by decide)
  simp only [zT, zI] at hT
  have B3 := hQ (ze B2.out B2.out.size hb)
  have X3 := hQ (zb X2.out hb)
  have Y3 := hQ (zb Y2.out hb)
  clear hb
  refine hK.out _ _ ⟨za X3.out 0, za X3.out 1, za X3.out 2, za X3.out 3, za X3.out 4, za X3.out 5, za X3.out 6, za X3.out 7, za X3.out 8, za X3.out 9, za X3.out 10, za X3.out 11⟩ (fun hHeld => ?_)
  clear hK K
  refine nq_ ?_
  refine oq_ 17 (some 33) (fun K hK => ?_)
  refine yo Tryz.func175 (by kernel_rfl) rfl #[.int .i64 3, .slice A3 2 c3] (by rfl) rfl rfl (by (try simp only [List.map_toArray, List.map_cons, List.map_nil]); first | done | rfl) ?_
  refine (hT).mono ?_
  rintro e w4 ⟨A4, c4, rfl, hF, hc4, hb⟩
  refine ⟨_, rfl, ?_⟩
  have F4 := hQ hF
  have C4 := hQ hc4
  clear hF hc4 hT
  have B4 := hQ (ze B3.out B3.out.size hb)
  have X4 := hQ (zb X3.out hb)
  have Y4 := hQ (zb Y3.out hb)
  clear hb
  obtain ⟨y0, y1, y2, y3, y4, y5, y6, y7, y8, y9, y10, y11, y12, y13⟩ := yn Y4.out
  have fy : ∀ i, w4.frozen? ⟨w.heap.size + 1, i, none⟩ = false := fun i => zh Y4.out i
  refine hK.out _ _ ⟨za X4.out 0, za X4.out 1, za X4.out 2, za X4.out 3, za X4.out 4, za X4.out 5, za X4.out 6, za X4.out 7, za X4.out 8, za X4.out 9, za X4.out 10, za X4.out 11⟩ (fun hHeld => ?_)
  clear hK K
  refine nq_ ?_
  refine kr (i := 18) (N := none) #[true, true, true, true, true, true, true, true, true, true, true, true, true, true, true, true, true, true, true] rfl rfl (by kernel_rfl) (by decide) (fun K hK => ?_)
  refine jJ (w1 := ?_) (by rfl) rfl ?_ ?_
  rotate_left
  · go_simp
    rfl
  refine hK.out _ _ ?_
  clear hK K
  refine xP (by kernel_rfl) ?_
  --ENDA
  go_wp2
  refine bodyPost_ret (v := .agg #[.int .i64 3, .int .i64 0, .slice none 0 0, .slice A4 2 c4, .int .i64 0, .int .i64 0, .int .u16 0, .int .u16 0, .int .u16 0, .int .i64 0, .int .i64 0, .bool false, .int .i64 0, .slice none 0 0]) ?_ rfl ⟨A4, c4, rfl, C4.out, ?_, ?_⟩
  · simp [results, Tryz.results142, go_sem, hu41, y0, y1, y2, y3, y4, y5, y6, y7, y8, y9, y10, y11, y12, y13]
  · have s1 := zF Y3.out
    refine Kd.qx (ok := fun k => w3.heap.size ≤ k) ?_ (fun k hk => by omega)
    repeat (with_reducible first | exact F4.out | (refine jR ?_ (by omega)))
  · refine B4.out.trans ?_
    (repeat (with_reducible first | exact Below.refl _ _ | (refine jc ?_ (by omega))))
theorem zdP (w : World) (B N N' : Nat) (x : Ix) (g g' : Sg) (h : ym w B N x g) (m gr o : Value) (hcfg : qF w m gr) (k : Int) (hk : (Lit.int .i64 k).wf = true) (s1 s2 s3 : Int) (hses : (g.ses k).getD (0, 0, 0) = (s1, s2, s3)) (h1 : 0 ≤ s1 ∧ s1 < 65536) (h2 : 0 ≤ s2 ∧ s2 < 65536) :
    Calls Tryz.prog 107 #[.pointer (some ⟨x.ss, 0, none⟩), .agg (xA m gr o), .int .i64 k, .agg #[.int .i64 3, .int .i64 101, .int .i64 2, .int .u16 0, .int .u16 0, .int .u16 0, .slice none 0 0, .slice none 0 0, .int .i64 0, .int .i64 0, .int .i64 0, .int .i64 0]] w fun e w' => ∃ A c, e = .returned (zT 3 0 (.slice A 2 c) 0 0) ∧ 2 ≤ c ∧ Kd.F (Kd.int .u16) w' (fun k => w.heap.size ≤ k) A 2 [s1, s2] ∧ ym w' B N x g ∧ Ch TS (MS x) B w w' := by
  have hu41 := Tryz.underlying41
  have hu37 := Tryz.underlying37
  have hu30 := Tryz.underlying30
  have hf189 := jE
  have hmf : ∀ (fn : Fn) (first cap : Array Value) (w : World), (Instr.makeFunc fn first cap).run Tryz.prog w = .ok (.func fn first cap) w := fun _ _ _ _ => rfl
  obtain ⟨W1, hW1⟩ : ∃ W1, W1 = ((w.alloc (.cells (xA m gr o) 30)).alloc (.cells #[.int .i64 3, .int .i64 101, .int .i64 2, .int .u16 0, .int .u16 0, .int .u16 0, .slice none 0 0, .slice none 0 0, .int .i64 0, .int .i64 0, .int .i64 0, .int .i64 0] 37)).alloc (.cells zY 41) := ⟨_, rfl⟩
  have B1 := hQ (show Below w.heap.size w W1 by rw [hW1]; exact ((((Below.refl _ _).alloc (Nat.le_refl _) _).alloc (by simp) _).alloc (by simp; omega) _))
  have K1 := hQ (show W1.heap[w.heap.size]? = some (.cells (xA m gr o) 30 (0, 0)) by rw [hW1]; exact zg (zg (zi w _) _) _)
  have X1 := hQ (show W1.heap[w.heap.size + 1]? = some (.cells #[.int .i64 3, .int .i64 101, .int .i64 2, .int .u16 0, .int .u16 0, .int .u16 0, .slice none 0 0, .slice none 0 0, .int .i64 0, .int .i64 0, .int .i64 0, .int .i64 0] 37 (0, 0)) by rw [hW1]; exact zg (yx w _ _) _)
  have Y1 := hQ (show W1.heap[w.heap.size + 1 + 1]? = some (.cells zY 41 (0, 0)) by rw [hW1]; have := yx (w.alloc (.cells (xA m gr o) 30)) (.cells #[.int .i64 3, .int .i64 101, .int .i64 2, .int .u16 0, .int .u16 0, .int .u16 0, .slice none 0 0, .slice none 0 0, .int .i64 0, .int .i64 0, .int .i64 0, .int .i64 0] 37) (.cells zY 41); rwa [show (w.alloc (.cells (xA m gr o) 30)).heap.size = w.heap.size + 1 by simp] at this)
  have F1 := hQ (hcfg.below B1.out)
  rw [hW1] at B1 K1 X1 Y1 F1
  have H := hQ h
  have HS := hQ hses
  have H1 := hQ h1
  have H2 := hQ h2
  have hwd := JF
  clear hses h1 h2
  clear h hW1 hcfg
  simp only [xA, zY] at B1 K1 X1 Y1 F1 ⊢
  obtain ⟨x0, x1, x2, x3, x4, x5, x6, x7, x8, x9, x10, x11⟩ := zW X1.out
  go_enter Tryz.func107, Tryz.ntmps107
  go_wp2_with (fail)
  refine (jC _ 101 2 (by omega) (by omega)).mono ?_
  rintro e w2 ⟨rfl, hb⟩
  have B2 := hQ (ze B1.out B1.out.size hb)
  have K2 := hQ (zb K1.out hb)
  have X2 := hQ (zb X1.out hb)
  have Y2 := hQ (zb Y1.out hb)
  have F2 := hQ (F1.out.below hb)
  clear hb x0 x1 x2 x3 x4 x5 x6 x7 x8 x9 x10 x11
  obtain ⟨x0, x1, x2, x3, x4, x5, x6, x7, x8, x9, x10, x11⟩ := zW X2.out
  go_wp2_with (fail)
  refine (Yc _ 101 2 (by omega) (by omega)).mono ?_
  rintro e w3 ⟨gs, rfl, hgs, hsz, hb⟩
  have B3 := hQ (ze B2.out B2.out.size hb)
  have K3 := hQ (zb K2.out hb)
  have X3 := hQ (zb X2.out hb)
  have Y3 := hQ (zb Y2.out hb)
  have F3 := hQ (F2.out.below hb)
  have G3 := hQ (show w3.heap[gs]? = some (.cells #[.int .i64 2, .int .i64 101, .int .i64 103] 78 (0, 0)) from hgs)
  clear hb x0 x1 x2 x3 x4 x5 x6 x7 x8 x9 x10 x11 hgs hsz
  have B4 := hQ (B3.out.alloc B3.out.size (.cells #[.slice (some ⟨gs, 0, none⟩) 1 1, .slice none 0 0] 25))
  have K4 := hQ (zg K3.out (.cells #[.slice (some ⟨gs, 0, none⟩) 1 1, .slice none 0 0] 25))
  have X4 := hQ (zg X3.out (.cells #[.slice (some ⟨gs, 0, none⟩) 1 1, .slice none 0 0] 25))
  have Y4 := hQ (zg Y3.out (.cells #[.slice (some ⟨gs, 0, none⟩) 1 1, .slice none 0 0] 25))
  have G4 := hQ (zg G3.out (.cells #[.slice (some ⟨gs, 0, none⟩) 1 1, .slice none 0 0] 25))
  have F4 := hQ (F3.out.below (zn (Below.refl _ _) (.cells #[.slice (some ⟨gs, 0, none⟩) 1 1, .slice none 0 0] 25)))
  go_wp2_with (fail)
  refine (Jb _ w3.heap.size gs 2 101 103 (zi w3 (.cells #[.slice (some ⟨gs, 0, none⟩) 1 1, .slice none 0 0] 25)) (zba G4.out)).mono ?_
  rintro e w5 ⟨A5, c5, rfl, hr, hb⟩
  have B5 := hQ (ze B4.out B4.out.size hb)
  have K5 := hQ (zb K4.out hb)
  have X5 := hQ (zb X4.out hb)
  have Y5 := hQ (zb Y4.out hb)
  have G5 := hQ (zb G4.out hb)
  have F5 := hQ (F4.out.below hb)
  have R5 := hQ hr
  clear hb hr
  go_wp2_with (fail)
  go_at_call 138
  refine (Yg w5 w.heap.size 0).mono ?_
  rintro e w5' ⟨rfl, rfl⟩
  have C6 := hQ ((F5.out.below (zn (Below.refl _ _) (.cells #[.int .i64 0] 3))).at (zg K5.out (.cells #[.int .i64 0] 3)))
  obtain ⟨g5, rfl, i0, i1, i2⟩ := jm (Kd.xO R5.out (.cells #[.int .i64 0] 3))
  go_wp2_with (fail)
  refine (qj _ g5 c5 w.heap.size w5.heap.size 0 2 101 103 2 i0 i1 i2 C6.out (za (zi w5 (.cells #[.int .i64 0] 3)) 0) hwd).mono ?_
  rintro e w6 ⟨rfl, hb⟩
  have hz5 : w5.heap.size ≤ (w5.alloc (.cells #[.int .i64 0] 3)).heap.size := by simp
  have hb5 := ((Below.refl _ _).alloc (Nat.le_refl _) (.cells #[.int .i64 0] 3)).trans (hb.mono hz5)
  have B6 := hQ (ze B5.out B5.out.size hb5)
  have K6 := hQ (zb K5.out hb5)
  have X6 := hQ (zb X5.out hb5)
  have Y6 := hQ (zb Y5.out hb5)
  have G6 := hQ (zb G5.out hb5)
  have F6 := hQ (F5.out.below hb5)
  have R6 := hQ (Kd.zy R5.out hb5)
  clear hb hb5 i0 i1 i2 C6 hz5
  have e0 : ((2 : Int) == 0) = false := by decide
  rw [e0]
  go_wp2_with (fail)
  go_at_call 138
  refine (Yg w6 w.heap.size 2).mono ?_
  rintro e w6' ⟨rfl, rfl⟩
  have C7 := hQ ((F6.out.below (zn (Below.refl _ _) (.cells #[.int .i64 2] 3))).at (zg K6.out (.cells #[.int .i64 2] 3)))
  obtain ⟨g6, eg, i0, i1, i2⟩ := jm (Kd.xO R6.out (.cells #[.int .i64 2] 3))
  cases eg
  go_wp2_with (fail)
  refine (qj _ g5 c5 w.heap.size w6.heap.size 2 2 101 103 2 i0 i1 i2 C7.out (za (zi w6 (.cells #[.int .i64 2] 3)) 0) hwd).mono ?_
  rintro e w7 ⟨rfl, hb⟩
  have hz6 : w6.heap.size ≤ (w6.alloc (.cells #[.int .i64 2] 3)).heap.size := by simp
  have hb6 := ((Below.refl _ _).alloc (Nat.le_refl _) (.cells #[.int .i64 2] 3)).trans (hb.mono hz6)
  have B7 := hQ (ze B6.out B6.out.size hb6)
  have K7 := hQ (zb K6.out hb6)
  have X7 := hQ (zb X6.out hb6)
  have Y7 := hQ (zb Y6.out hb6)
  have G7 := hQ (zb G6.out hb6)
  have F7 := hQ (F6.out.below hb6)
  clear hb hb6 i0 i1 i2 C7 hz6 R5 R6
  have e2 : ((2 : Int) == 2) = true := by decide
  rw [e2]
  obtain ⟨x0, x1, x2, x3, x4, x5, x6, x7, x8, x9, x10, x11⟩ := zW X7.out
  have k2 : w7.cell? ⟨w.heap.size, 2, none⟩ = some (.int .i64 100) := za K7.out 2
  go_wp2_with (fail)
  refine (VW w7 B N x g (H.out.below B7.out) k hk s1 s2 s3 HS.out H1.out H2.out).mono ?_
  rintro e w10 ⟨A, c, rfl, hcc, hF, hb⟩
  have F8 := hQ hF
  have S1 := hQ (zF Y7.out)
  have Y8 := hQ (zb Y7.out hb)
  have L8 := hQ ((Loc.mk' H.out B7.out Y7.out Y7.out (by omega) (by omega) (by decide) (by decide)).below hb)
  obtain ⟨y0, y1, y2, y3, y4, y5, y6, y7, y8, y9, y10, y11, y12, y13⟩ := yn Y8.out
  have fy : ∀ i, w10.frozen? ⟨w.heap.size + 1 + 1, i, none⟩ = false := fun i => zh Y8.out i
  simp only [zT, zI]
  go_wp2
  refine bodyPost_ret (v := .agg #[.int .i64 3, .int .i64 0, .slice none 0 0, .slice A 2 c, .int .i64 0, .int .i64 0, .int .u16 0, .int .u16 0, .int .u16 0, .int .i64 0, .int .i64 0, .bool false, .int .i64 0, .slice none 0 0]) ?_ rfl ⟨A, c, rfl, hcc, ?_, ?_⟩
  · simp [results, Tryz.results107, go_sem, hu41, y0, y1, y2, y3, y4, y5, y6, y7, y8, y9, y10, y11, y12, y13]
  · have s1 := S1.out
    refine Kd.qx (ok := fun k => w7.heap.size ≤ k) ?_ (fun k hk => by omega)
    repeat (with_reducible first | exact F8.out | (refine jR ?_ (by omega)))
  · refine And.intro (Loc.slv (w0 := w) (b1 := w.heap.size + 1 + 1) (b2 := w.heap.size + 1 + 1) ?_) (Loc.ch (g := g) (N := N) (b1 := w.heap.size + 1 + 1) (b2 := w.heap.size + 1 + 1) ?_)
    all_goals (repeat (with_reducible first | exact L8.out | (refine Loc.set ?_ (Or.inl rfl))))
theorem zdF (w : World) (B N N' : Nat) (x : Ix) (g g' : Sg) (h : ym w B N x g) (m gr o : Value) (hcfg : qF w m gr) (k : Int) (hk : (Lit.int .i64 k).wf = true) (s1 s2 s3 : Int) (hses : (g.ses k).getD (0, 0, 0) = (s1, s2, s3)) (hs2 : s1 ≠ 2) (a v : Int) (ha : okA a) (hv : 0 ≤ v ∧ v < 65536) (hW : zaV B N N' x g g' k a v) :
    Calls Tryz.prog 107 #[.pointer (some ⟨x.ss, 0, none⟩), .agg (xA m gr o), .int .i64 k, .agg #[.int .i64 6, .int .i64 a, .int .i64 0, .int .u16 v, .int .u16 0, .int .u16 0, .slice none 0 0, .slice none 0 0, .int .i64 0, .int .i64 0, .int .i64 0, .int .i64 0]] w fun e w' => e = .returned (zT 6 0 (.slice none 0 0) a v) ∧ ym w' B N' x g' ∧ Ch TS (MS x) B w w' := by
  have hu41 := Tryz.underlying41
  have hu37 := Tryz.underlying37
  have hu30 := Tryz.underlying30
  have hf189 := jE
  have hmf : ∀ (fn : Fn) (first cap : Array Value) (w : World), (Instr.makeFunc fn first cap).run Tryz.prog w = .ok (.func fn first cap) w := fun _ _ _ _ => rfl
  obtain ⟨W1, hW1⟩ : ∃ W1, W1 = ((w.alloc (.cells (xA m gr o) 30)).alloc (.cells #[.int .i64 6, .int .i64 a, .int .i64 0, .int .u16 v, .int .u16 0, .int .u16 0, .slice none 0 0, .slice none 0 0, .int .i64 0, .int .i64 0, .int .i64 0, .int .i64 0] 37)).alloc (.cells zY 41) := ⟨_, rfl⟩
  have B1 := hQ (show Below w.heap.size w W1 by rw [hW1]; exact ((((Below.refl _ _).alloc (Nat.le_refl _) _).alloc (by simp) _).alloc (by simp; omega) _))
  have K1 := hQ (show W1.heap[w.heap.size]? = some (.cells (xA m gr o) 30 (0, 0)) by rw [hW1]; exact zg (zg (zi w _) _) _)
  have X1 := hQ (show W1.heap[w.heap.size + 1]? = some (.cells #[.int .i64 6, .int .i64 a, .int .i64 0, .int .u16 v, .int .u16 0, .int .u16 0, .slice none 0 0, .slice none 0 0, .int .i64 0, .int .i64 0, .int .i64 0, .int .i64 0] 37 (0, 0)) by rw [hW1]; exact zg (yx w _ _) _)
  have Y1 := hQ (show W1.heap[w.heap.size + 1 + 1]? = some (.cells zY 41 (0, 0)) by rw [hW1]; have := yx (w.alloc (.cells (xA m gr o) 30)) (.cells #[.int .i64 6, .int .i64 a, .int .i64 0, .int .u16 v, .int .u16 0, .int .u16 0, .slice none 0 0, .slice none 0 0, .int .i64 0, .int .i64 0, .int .i64 0, .int .i64 0] 37) (.cells zY 41); rwa [show (w.alloc (.cells (xA m gr o) 30)).heap.size = w.heap.size + 1 by simp] at this)
  have F1 := hQ (hcfg.below B1.out)
  rw [hW1] at B1 K1 X1 Y1 F1
  have H := hQ h
  have hS := fun (W : World) (hW : ym W B N x g) => Zv W B N x.ss x.en x.bk x.ms x.ticks g.ses hW.ss k hk
  rw [hses] at hS
  dsimp only at hS
  have HS := hQ hS
  have hd1 : decide (s1 = 2) = false := dF hs2
  have hd2 : (s1 == 2) = false := beq_false_of_ne hs2
  clear hS hses
  have HW := hQ hW
  have HA := hQ ha
  have HV := hQ hv
  have hwd := YT a ha
  clear hW ha hv
  clear h hW1 hcfg
  simp only [xA, zY] at B1 K1 X1 Y1 F1 ⊢
  obtain ⟨x0, x1, x2, x3, x4, x5, x6, x7, x8, x9, x10, x11⟩ := zW X1.out
  go_enter Tryz.func107, Tryz.ntmps107
  go_wp2_with (fail)
  refine (qU _ a v (kv HA.out) HV.out).mono ?_
  rintro e w2 ⟨rfl, hb⟩
  have B2 := hQ (ze B1.out B1.out.size hb)
  have K2 := hQ (zb K1.out hb)
  have X2 := hQ (zb X1.out hb)
  have Y2 := hQ (zb Y1.out hb)
  have F2 := hQ (F1.out.below hb)
  clear hb x0 x1 x2 x3 x4 x5 x6 x7 x8 x9 x10 x11
  obtain ⟨x0, x1, x2, x3, x4, x5, x6, x7, x8, x9, x10, x11⟩ := zW X2.out
  go_wp2_with (fail)
  refine (Yi _ a v (kv HA.out) HV.out).mono ?_
  rintro e w3 ⟨gs, rfl, hgs, hsz, hb⟩
  have B3 := hQ (ze B2.out B2.out.size hb)
  have K3 := hQ (zb K2.out hb)
  have X3 := hQ (zb X2.out hb)
  have Y3 := hQ (zb Y2.out hb)
  have F3 := hQ (F2.out.below hb)
  have G3 := hQ (show w3.heap[gs]? = some (.cells #[.int .i64 2, .int .i64 a, .int .i64 (a + 1)] 78 (0, 0)) from hgs)
  clear hb x0 x1 x2 x3 x4 x5 x6 x7 x8 x9 x10 x11 hgs hsz
  have B4 := hQ (B3.out.alloc B3.out.size (.cells #[.slice none 0 0, .slice (some ⟨gs, 0, none⟩) 1 1] 25))
  have K4 := hQ (zg K3.out (.cells #[.slice none 0 0, .slice (some ⟨gs, 0, none⟩) 1 1] 25))
  have X4 := hQ (zg X3.out (.cells #[.slice none 0 0, .slice (some ⟨gs, 0, none⟩) 1 1] 25))
  have Y4 := hQ (zg Y3.out (.cells #[.slice none 0 0, .slice (some ⟨gs, 0, none⟩) 1 1] 25))
  have G4 := hQ (zg G3.out (.cells #[.slice none 0 0, .slice (some ⟨gs, 0, none⟩) 1 1] 25))
  have F4 := hQ (F3.out.below (zn (Below.refl _ _) (.cells #[.slice none 0 0, .slice (some ⟨gs, 0, none⟩) 1 1] 25)))
  go_wp2_with (fail)
  refine (Jh _ w3.heap.size gs 2 a (a + 1) (zi w3 (.cells #[.slice none 0 0, .slice (some ⟨gs, 0, none⟩) 1 1] 25)) (zba G4.out)).mono ?_
  rintro e w5 ⟨A5, c5, rfl, hr, hb⟩
  have B5 := hQ (ze B4.out B4.out.size hb)
  have K5 := hQ (zb K4.out hb)
  have X5 := hQ (zb X4.out hb)
  have Y5 := hQ (zb Y4.out hb)
  have G5 := hQ (zb G4.out hb)
  have F5 := hQ (F4.out.below hb)
  have R5 := hQ hr
  clear hb hr
  go_wp2_with (fail)
  go_at_call 138
  refine (Yg w5 w.heap.size 0).mono ?_
  rintro e w5' ⟨rfl, rfl⟩
  have C6 := hQ ((F5.out.below (zn (Below.refl _ _) (.cells #[.int .i64 0] 3))).at (zg K5.out (.cells #[.int .i64 0] 3)))
  obtain ⟨g5, rfl, i0, i1, i2⟩ := jm (Kd.xO R5.out (.cells #[.int .i64 0] 3))
  go_wp2_with (fail)
  refine (qj _ g5 c5 w.heap.size w5.heap.size 0 2 a (a + 1) 1 i0 i1 i2 C6.out (za (zi w5 (.cells #[.int .i64 0] 3)) 0) hwd).mono ?_
  rintro e w6 ⟨rfl, hb⟩
  have hz5 : w5.heap.size ≤ (w5.alloc (.cells #[.int .i64 0] 3)).heap.size := by simp
  have hb5 := ((Below.refl _ _).alloc (Nat.le_refl _) (.cells #[.int .i64 0] 3)).trans (hb.mono hz5)
  have B6 := hQ (ze B5.out B5.out.size hb5)
  have K6 := hQ (zb K5.out hb5)
  have X6 := hQ (zb X5.out hb5)
  have Y6 := hQ (zb Y5.out hb5)
  have G6 := hQ (zb G5.out hb5)
  have F6 := hQ (F5.out.below hb5)
  have R6 := hQ (Kd.zy R5.out hb5)
  clear hb hb5 i0 i1 i2 C6 hz5
  have e0 : ((1 : Int) == 0) = false := by decide
  rw [e0]
  go_wp2_with (fail)
  go_at_call 138
  refine (Yg w6 w.heap.size 2).mono ?_
  rintro e w6' ⟨rfl, rfl⟩
  have C7 := hQ ((F6.out.below (zn (Below.refl _ _) (.cells #[.int .i64 2] 3))).at (zg K6.out (.cells #[.int .i64 2] 3)))
  obtain ⟨g6, eg, i0, i1, i2⟩ := jm (Kd.xO R6.out (.cells #[.int .i64 2] 3))
  cases eg
  go_wp2_with (fail)
  refine (qj _ g5 c5 w.heap.size w6.heap.size 2 2 a (a + 1) 1 i0 i1 i2 C7.out (za (zi w6 (.cells #[.int .i64 2] 3)) 0) hwd).mono ?_
  rintro e w7 ⟨rfl, hb⟩
  have hz6 : w6.heap.size ≤ (w6.alloc (.cells #[.int .i64 2] 3)).heap.size := by simp
  have hb6 := ((Below.refl _ _).alloc (Nat.le_refl _) (.cells #[.int .i64 2] 3)).trans (hb.mono hz6)
  have B7 := hQ (ze B6.out B6.out.size hb6)
  have K7 := hQ (zb K6.out hb6)
  have X7 := hQ (zb X6.out hb6)
  have Y7 := hQ (zb Y6.out hb6)
  have G7 := hQ (zb G6.out hb6)
  have F7 := hQ (F6.out.below hb6)
  clear hb hb6 i0 i1 i2 C7 hz6 R5 R6
  have e2 : ((1 : Int) == 2) = false := by decide
  rw [e2]
  obtain ⟨x0, x1, x2, x3, x4, x5, x6, x7, x8, x9, x10, x11⟩ := zW X7.out
  have k2 : w7.cell? ⟨w.heap.size, 2, none⟩ = some (.int .i64 100) := za K7.out 2
  go_wp2_with (fail)
  refine (JB _ gs 1 w.heap.size 2 a (a + 1) false (za G7.out 0) (za G7.out 1) (za G7.out 2) (F7.out.at K7.out) (Wo a HA.out)).mono ?_
  rintro e w8 ⟨rfl, hb⟩
  have B8 := hQ (ze B7.out B7.out.size hb)
  have X8 := hQ (zb X7.out hb)
  have Y8 := hQ (zb Y7.out hb)
  have G8 := hQ (zb G7.out hb)
  clear hb x0 x1 x2 x3 x4 x5 x6 x7 x8 x9 x10 x11
  go_wp2_with (fail)
  refine (HS.out _ (H.out.below B8.out)).mono ?_
  rintro e w9 ⟨rfl, hb⟩
  have B9 := hQ (ze B8.out B8.out.size hb)
  have X9 := hQ (zb X8.out hb)
  have Y9 := hQ (zb Y8.out hb)
  have G9 := hQ (zb G8.out hb)
  clear hb
  obtain ⟨x0, x1, x2, x3, x4, x5, x6, x7, x8, x9, x10, x11⟩ := zW X9.out
  go_wp2_with (fail)
  refine (zcH w9 B N N' x g g' (H.out.below B9.out) k a v (kv HA.out) HV.out HW.out (some ⟨gs, 0, none⟩) 1).mono ?_
  rintro e w10 ⟨rfl, hs, hc⟩
  have Y8 := hQ (hc.cell Y9.out (by decide))
  have L8 := hQ ((Loc.mk' H.out B9.out Y9.out Y9.out (by omega) (by omega) (by decide) (by decide)).step hs hc)
  obtain ⟨y0, y1, y2, y3, y4, y5, y6, y7, y8, y9, y10, y11, y12, y13⟩ := yn Y8.out
  have fy : ∀ i, w10.frozen? ⟨w.heap.size + 1 + 1, i, none⟩ = false := fun i => zh Y8.out i
  simp only [zT, zI]
  go_wp2
  refine bodyPost_ret (v := .agg #[.int .i64 6, .int .i64 0, .slice none 0 0, .slice none 0 0, .int .i64 a, .int .i64 0, .int .u16 v, .int .u16 0, .int .u16 0, .int .i64 0, .int .i64 0, .bool false, .int .i64 0, .slice none 0 0]) ?_ rfl ⟨rfl, ?_⟩
  · simp [results, Tryz.results107, go_sem, hu41, y0, y1, y2, y3, y4, y5, y6, y7, y8, y9, y10, y11, y12, y13]
  · refine And.intro (Loc.slv (w0 := w) (b1 := w.heap.size + 1 + 1) (b2 := w.heap.size + 1 + 1) ?_) (Loc.ch (g := g') (N := N') (b1 := w.heap.size + 1 + 1) (b2 := w.heap.size + 1 + 1) ?_)
    all_goals (repeat (with_reducible first | exact L8.out | (refine Loc.set ?_ (Or.inl rfl))))
theorem VX (w : World) : (binOp .eql 267 (.func (.func 209) #[] #[]) .nilFunc).run Tryz.prog w = .ok (.bool false) w := by kernel_rfl
theorem XE (w : World) : (binOp .eql 267 (.func (.func 210) #[] #[]) .nilFunc).run Tryz.prog w = .ok (.bool false) w := by kernel_rfl
theorem VM (w : World) : Calls Tryz.prog 178 #[.int .i64 1] w fun e w' => e = .returned (.func (.func 209) #[] #[]) ∧ w' = w := by
  go_enter Tryz.func178, Tryz.ntmps178
  go_wp2
  go_ret
  exact ⟨rfl, rfl⟩
theorem XR (w : World) : Calls Tryz.prog 178 #[.int .i64 2] w fun e w' => e = .returned (.func (.func 210) #[] #[]) ∧ w' = w := by
  go_enter Tryz.func178, Tryz.ntmps178
  go_wp2
  go_ret
  exact ⟨rfl, rfl⟩
theorem Wh (w : World) (B N N' : Nat) (x : Ix) (g g' : Sg) (h : ym w B N x g) (k : Int) (hO : ∀ w1 : World, ym w1 B N x g → Calls Tryz.prog 209 #[.pointer (some ⟨x.ss, 0, none⟩), .int .i64 k] w1 fun e w' => e = .returned (.int .i64 0) ∧ ym w' B N' x g' ∧ Ch TS (MS x) B w1 w') :
    Calls Tryz.prog 142 #[.pointer (some ⟨x.ss, 0, none⟩), .int .i64 100, .int .i64 k, qd 100 1] w fun e w' => e = .returned (zT 6 0 (.slice none 0 0) 100 1) ∧ ym w' B N' x g' ∧ Ch TS (MS x) B w w' := by
  have hu41 := Tryz.underlying41
  have hu37 := Tryz.underlying37
  obtain ⟨W1, hW1⟩ : ∃ W1, W1 = (w.alloc (.cells (xB 100 1) 37)).alloc (.cells zY 41) := ⟨_, rfl⟩
  have B1 := hQ (show Below w.heap.size w W1 by rw [hW1]; exact ((Below.refl _ _).alloc (Nat.le_refl _) _).alloc (by simp) _)
  have X1 := hQ (show W1.heap[w.heap.size]? = some (.cells (xB 100 1) 37 (0, 0)) by rw [hW1]; exact zg (zi w _) _)
  have Y1 := hQ (show W1.heap[w.heap.size + 1]? = some (.cells zY 41 (0, 0)) by rw [hW1]; exact yx w _ _)
  rw [hW1] at B1 X1 Y1
  have H := hQ h
  have HO := hQ hO
  have hq := VX
  have hE := fun (w : World) => vv w 100 1 (by omega) (by omega)
  clear h hW1 hO
  simp only [qd, xB, zY, zT, zI] at B1 X1 Y1 hE ⊢
  obtain ⟨x0, x1, x2, x3, x4, x5, x6, x7, x8, x9, x10, x11⟩ := zW X1.out
  go_enter Tryz.func142, Tryz.ntmps142
  go_wp2_with (fail)
  refine (Ke _ 1 (by decide)).mono ?_
  rintro e w2 ⟨rfl, hb⟩
  have B2 := hQ (ze B1.out B1.out.size hb)
  have X2 := hQ (zb X1.out hb)
  have Y2 := hQ (zb Y1.out hb)
  clear hb x0 x1 x2 x3 x4 x5 x6 x7 x8 x9 x10 x11
  go_wp2_with (fail)
  refine (VM w2).mono ?_
  rintro e w2' ⟨rfl, rfl⟩
  go_wp2_with (fail)
  go_at_call 209
  refine (HO.out _ (H.out.below B2.out)).mono ?_
  rintro e w3 ⟨rfl, hs, hc⟩
  have L3 := hQ ((Loc.mk' H.out B2.out Y2.out Y2.out (by omega) (by omega) (by decide) (by decide)).step hs hc)
  have X3 := hQ (hc.cell X2.out (by decide))
  have Y3 := hQ (hc.cell Y2.out (by decide))
  clear hs hc
  obtain ⟨x0, x1, x2, x3, x4, x5, x6, x7, x8, x9, x10, x11⟩ := zW X3.out
  go_wp2_with (fail)
  refine (hE _).mono ?_
  rintro e w4 ⟨rfl, hb⟩
  have L4 := hQ (L3.out.below hb)
  have Y4 := hQ (zb Y3.out hb)
  clear hb x0 x1 x2 x3 x4 x5 x6 x7 x8 x9 x10 x11
  obtain ⟨y0, y1, y2, y3, y4, y5, y6, y7, y8, y9, y10, y11, y12, y13⟩ := yn Y4.out
  have fy : ∀ i, w4.frozen? ⟨w.heap.size + 1, i, none⟩ = false := fun i => zh Y4.out i
  go_wp2
  refine bodyPost_ret (v := .agg #[.int .i64 6, .int .i64 0, .slice none 0 0, .slice none 0 0, .int .i64 100, .int .i64 0, .int .u16 1, .int .u16 0, .int .u16 0, .int .i64 0, .int .i64 0, .bool false, .int .i64 0, .slice none 0 0]) ?_ rfl ⟨rfl, ?_⟩
  · simp [results, Tryz.results142, go_sem, hu41, y0, y1, y2, y3, y4, y5, y6, y7, y8, y9, y10, y11, y12, y13]
  · refine And.intro (Loc.slv (w0 := w) (b1 := w.heap.size + 1) (b2 := w.heap.size + 1) ?_) (Loc.ch (g := g') (N := N') (b1 := w.heap.size + 1) (b2 := w.heap.size + 1) ?_)
    all_goals (repeat (with_reducible first | exact L4.out | (refine Loc.set ?_ (Or.inl rfl))))
theorem VK (w : World) (B N N' : Nat) (x : Ix) (g g' : Sg) (h : ym w B N x g) (k : Int) (hO : ∀ w1 : World, ym w1 B N x g → Calls Tryz.prog 210 #[.pointer (some ⟨x.ss, 0, none⟩), .int .i64 k] w1 fun e w' => e = .returned (.int .i64 0) ∧ ym w' B N' x g' ∧ Ch TS (MS x) B w1 w') :
    Calls Tryz.prog 142 #[.pointer (some ⟨x.ss, 0, none⟩), .int .i64 100, .int .i64 k, qd 100 2] w fun e w' => e = .returned (zT 6 0 (.slice none 0 0) 100 2) ∧ ym w' B N' x g' ∧ Ch TS (MS x) B w w' := by
  have hu41 := Tryz.underlying41
  have hu37 := Tryz.underlying37
  obtain ⟨W1, hW1⟩ : ∃ W1, W1 = (w.alloc (.cells (xB 100 2) 37)).alloc (.cells zY 41) := ⟨_, rfl⟩
  have B1 := hQ (show Below w.heap.size w W1 by rw [hW1]; exact ((Below.refl _ _).alloc (Nat.le_refl _) _).alloc (by simp) _)
  have X1 := hQ (show W1.heap[w.heap.size]? = some (.cells (xB 100 2) 37 (0, 0)) by rw [hW1]; exact zg (zi w _) _)
  have Y1 := hQ (show W1.heap[w.heap.size + 1]? = some (.cells zY 41 (0, 0)) by rw [hW1]; exact yx w _ _)
  rw [hW1] at B1 X1 Y1
  have H := hQ h
  have HO := hQ hO
  have hq := XE
  have hE := fun (w : World) => vv w 100 2 (by omega) (by omega)
  clear h hW1 hO
  simp only [qd, xB, zY, zT, zI] at B1 X1 Y1 hE ⊢
  obtain ⟨x0, x1, x2, x3, x4, x5, x6, x7, x8, x9, x10, x11⟩ := zW X1.out
  go_enter Tryz.func142, Tryz.ntmps142
  go_wp2_with (fail)
  refine (Ke _ 2 (by decide)).mono ?_
  rintro e w2 ⟨rfl, hb⟩
  have B2 := hQ (ze B1.out B1.out.size hb)
  have X2 := hQ (zb X1.out hb)
  have Y2 := hQ (zb Y1.out hb)
  clear hb x0 x1 x2 x3 x4 x5 x6 x7 x8 x9 x10 x11
  go_wp2_with (fail)
  refine (XR w2).mono ?_
  rintro e w2' ⟨rfl, rfl⟩
  go_wp2_with (fail)
  go_at_call 210
  refine (HO.out _ (H.out.below B2.out)).mono ?_
  rintro e w3 ⟨rfl, hs, hc⟩
  have L3 := hQ ((Loc.mk' H.out B2.out Y2.out Y2.out (by omega) (by omega) (by decide) (by decide)).step hs hc)
  have X3 := hQ (hc.cell X2.out (by decide))
  have Y3 := hQ (hc.cell Y2.out (by decide))
  clear hs hc
  obtain ⟨x0, x1, x2, x3, x4, x5, x6, x7, x8, x9, x10, x11⟩ := zW X3.out
  go_wp2_with (fail)
  refine (hE _).mono ?_
  rintro e w4 ⟨rfl, hb⟩
  have L4 := hQ (L3.out.below hb)
  have Y4 := hQ (zb Y3.out hb)
  clear hb x0 x1 x2 x3 x4 x5 x6 x7 x8 x9 x10 x11
  obtain ⟨y0, y1, y2, y3, y4, y5, y6, y7, y8, y9, y10, y11, y12, y13⟩ := yn Y4.out
  have fy : ∀ i, w4.frozen? ⟨w.heap.size + 1, i, none⟩ = false := fun i => zh Y4.out i
  go_wp2
  refine bodyPost_ret (v := .agg #[.int .i64 6, .int .i64 0, .slice none 0 0, .slice none 0 0, .int .i64 100, .int .i64 0, .int .u16 2, .int .u16 0, .int .u16 0, .int .i64 0, .int .i64 0, .bool false, .int .i64 0, .slice none 0 0]) ?_ rfl ⟨rfl, ?_⟩
  · simp [results, Tryz.results142, go_sem, hu41, y0, y1, y2, y3, y4, y5, y6, y7, y8, y9, y10, y11, y12, y13]
  · refine And.intro (Loc.slv (w0 := w) (b1 := w.heap.size + 1) (b2 := w.heap.size + 1) ?_) (Loc.ch (g := g') (N := N') (b1 := w.heap.size + 1) (b2 := w.heap.size + 1) ?_)
    all_goals (repeat (with_reducible first | exact L4.out | (refine Loc.set ?_ (Or.inl rfl))))
theorem We (w : World) (B N N' : Nat) (x : Ix) (g g' : Sg) (h : ym w B N x g) (k : Int) (hO : ∀ w1 : World, ym w1 B N x g → Calls Tryz.prog 210 #[.pointer (some ⟨x.ss, 0, none⟩), .int .i64 k] w1 fun e w' => e = .returned (.int .i64 7) ∧ ym w' B N' x g' ∧ Ch TS (MS x) B w1 w') :
    Calls Tryz.prog 142 #[.pointer (some ⟨x.ss, 0, none⟩), .int .i64 100, .int .i64 k, qd 100 2] w fun e w' => e = .returned (zT 6 4 (.slice none 0 0) 0 0) ∧ ym w' B N' x g' ∧ Ch TS (MS x) B w w' := by
  have hu41 := Tryz.underlying41
  have hu37 := Tryz.underlying37
  obtain ⟨W1, hW1⟩ : ∃ W1, W1 = (w.alloc (.cells (xB 100 2) 37)).alloc (.cells zY 41) := ⟨_, rfl⟩
  have B1 := hQ (show Below w.heap.size w W1 by rw [hW1]; exact ((Below.refl _ _).alloc (Nat.le_refl _) _).alloc (by simp) _)
  have X1 := hQ (show W1.heap[w.heap.size]? = some (.cells (xB 100 2) 37 (0, 0)) by rw [hW1]; exact zg (zi w _) _)
  have Y1 := hQ (show W1.heap[w.heap.size + 1]? = some (.cells zY 41 (0, 0)) by rw [hW1]; exact yx w _ _)
  rw [hW1] at B1 X1 Y1
  have H := hQ h
  have HO := hQ hO
  have hq := XE
  have hE := fun (w : World) => kX w 6 4
  clear h hW1 hO
  simp only [qd, xB, zY, zT, zI] at B1 X1 Y1 hE ⊢
  obtain ⟨x0, x1, x2, x3, x4, x5, x6, x7, x8, x9, x10, x11⟩ := zW X1.out
  go_enter Tryz.func142, Tryz.ntmps142
  go_wp2_with (fail)
  refine (Ke _ 2 (by decide)).mono ?_
  rintro e w2 ⟨rfl, hb⟩
  have B2 := hQ (ze B1.out B1.out.size hb)
  have X2 := hQ (zb X1.out hb)
  have Y2 := hQ (zb Y1.out hb)
  clear hb x0 x1 x2 x3 x4 x5 x6 x7 x8 x9 x10 x11
  go_wp2_with (fail)
  refine (XR w2).mono ?_
  rintro e w2' ⟨rfl, rfl⟩
  go_wp2_with (fail)
  go_at_call 210
  refine (HO.out _ (H.out.below B2.out)).mono ?_
  rintro e w3 ⟨rfl, hs, hc⟩
  have L3 := hQ ((Loc.mk' H.out B2.out Y2.out Y2.out (by omega) (by omega) (by decide) (by decide)).step hs hc)
  have X3 := hQ (hc.cell X2.out (by decide))
  have Y3 := hQ (hc.cell Y2.out (by decide))
  clear hs hc
  obtain ⟨x0, x1, x2, x3, x4, x5, x6, x7, x8, x9, x10, x11⟩ := zW X3.out
  go_wp2_with (fail)
  refine (hE _).mono ?_
  rintro e w4 ⟨rfl, hb⟩
  have L4 := hQ (L3.out.below hb)
  have Y4 := hQ (zb Y3.out hb)
  clear hb x0 x1 x2 x3 x4 x5 x6 x7 x8 x9 x10 x11
  obtain ⟨y0, y1, y2, y3, y4, y5, y6, y7, y8, y9, y10, y11, y12, y13⟩ := yn Y4.out
  have fy : ∀ i, w4.frozen? ⟨w.heap.size + 1, i, none⟩ = false := fun i => zh Y4.out i
  go_wp2
  refine bodyPost_ret (v := .agg #[.int .i64 6, .int .i64 4, .slice none 0 0, .slice none 0 0, .int .i64 0, .int .i64 0, .int .u16 0, .int .u16 0, .int .u16 0, .int .i64 0, .int .i64 0, .bool false, .int .i64 0, .slice none 0 0]) ?_ rfl ⟨rfl, ?_⟩
  · simp [results, Tryz.results142, go_sem, hu41, y0, y1, y2, y3, y4, y5, y6, y7, y8, y9, y10, y11, y12, y13]
  · refine And.intro (Loc.slv (w0 := w) (b1 := w.heap.size + 1) (b2 := w.heap.size + 1) ?_) (Loc.ch (g := g') (N := N') (b1 := w.heap.size + 1) (b2 := w.heap.size + 1) ?_)
    all_goals (repeat (with_reducible first | exact L4.out | (refine Loc.set ?_ (Or.inl rfl))))
theorem zdI (w : World) (B N N' : Nat) (x : Ix) (g g' : Sg) (h : ym w B N x g) (m gr o : Value) (hcfg : qF w m gr) (k : Int) (hk : (Lit.int .i64 k).wf = true) (v exc at_ rv : Int) (hv : 0 ≤ v ∧ v < 65536) (hC : ∀ w1 : World, ym w1 B N x g → Calls Tryz.prog 142 #[.pointer (some ⟨x.ss, 0, none⟩), .int .i64 100, .int .i64 k, qd 100 v] w1 fun e w' => e = .returned (zT 6 exc (.slice none 0 0) at_ rv) ∧ ym w' B N' x g' ∧ Ch TS (MS x) B w1 w') :
    Calls Tryz.prog 107 #[.pointer (some ⟨x.ss, 0, none⟩), .agg (xA m gr o), .int .i64 k, .agg #[.int .i64 6, .int .i64 100, .int .i64 0, .int .u16 v, .int .u16 0, .int .u16 0, .slice none 0 0, .slice none 0 0, .int .i64 0, .int .i64 0, .int .i64 0, .int .i64 0]] w fun e w' => e = .returned (zT 6 exc (.slice none 0 0) at_ rv) ∧ ym w' B N' x g' ∧ Ch TS (MS x) B w w' := by
  have hu41 := Tryz.underlying41
  have hu37 := Tryz.underlying37
  have hu30 := Tryz.underlying30
  have hf189 := jE
  have hmf : ∀ (fn : Fn) (first cap : Array Value) (w : World), (Instr.makeFunc fn first cap).run Tryz.prog w = .ok (.func fn first cap) w := fun _ _ _ _ => rfl
  obtain ⟨W1, hW1⟩ : ∃ W1, W1 = ((w.alloc (.cells (xA m gr o) 30)).alloc (.cells #[.int .i64 6, .int .i64 100, .int .i64 0, .int .u16 v, .int .u16 0, .int .u16 0, .slice none 0 0, .slice none 0 0, .int .i64 0, .int .i64 0, .int .i64 0, .int .i64 0] 37)).alloc (.cells zY 41) := ⟨_, rfl⟩
  have B1 := hQ (show Below w.heap.size w W1 by rw [hW1]; exact ((((Below.refl _ _).alloc (Nat.le_refl _) _).alloc (by simp) _).alloc (by simp; omega) _))
  have K1 := hQ (show W1.heap[w.heap.size]? = some (.cells (xA m gr o) 30 (0, 0)) by rw [hW1]; exact zg (zg (zi w _) _) _)
  have X1 := hQ (show W1.heap[w.heap.size + 1]? = some (.cells #[.int .i64 6, .int .i64 100, .int .i64 0, .int .u16 v, .int .u16 0, .int .u16 0, .slice none 0 0, .slice none 0 0, .int .i64 0, .int .i64 0, .int .i64 0, .int .i64 0] 37 (0, 0)) by rw [hW1]; exact zg (yx w _ _) _)
  have Y1 := hQ (show W1.heap[w.heap.size + 1 + 1]? = some (.cells zY 41 (0, 0)) by rw [hW1]; have := yx (w.alloc (.cells (xA m gr o) 30)) (.cells #[.int .i64 6, .int .i64 100, .int .i64 0, .int .u16 v, .int .u16 0, .int .u16 0, .slice none 0 0, .slice none 0 0, .int .i64 0, .int .i64 0, .int .i64 0, .int .i64 0] 37) (.cells zY 41); rwa [show (w.alloc (.cells (xA m gr o) 30)).heap.size = w.heap.size + 1 by simp] at this)
  have F1 := hQ (hcfg.below B1.out)
  rw [hW1] at B1 K1 X1 Y1 F1
  have H := hQ h
  have HC := hQ hC
  have HV := hQ hv
  have hwd := KV
  clear hC hv
  clear h hW1 hcfg
  simp only [xA, zY] at B1 K1 X1 Y1 F1 ⊢
  obtain ⟨x0, x1, x2, x3, x4, x5, x6, x7, x8, x9, x10, x11⟩ := zW X1.out
  go_enter Tryz.func107, Tryz.ntmps107
  go_wp2_with (fail)
  refine (qU _ 100 v (by omega) HV.out).mono ?_
  rintro e w2 ⟨rfl, hb⟩
  have B2 := hQ (ze B1.out B1.out.size hb)
  have K2 := hQ (zb K1.out hb)
  have X2 := hQ (zb X1.out hb)
  have Y2 := hQ (zb Y1.out hb)
  have F2 := hQ (F1.out.below hb)
  clear hb x0 x1 x2 x3 x4 x5 x6 x7 x8 x9 x10 x11
  obtain ⟨x0, x1, x2, x3, x4, x5, x6, x7, x8, x9, x10, x11⟩ := zW X2.out
  go_wp2_with (fail)
  refine (Yi _ 100 v (by omega) HV.out).mono ?_
  rintro e w3 ⟨gs, rfl, hgs, hsz, hb⟩
  have B3 := hQ (ze B2.out B2.out.size hb)
  have K3 := hQ (zb K2.out hb)
  have X3 := hQ (zb X2.out hb)
  have Y3 := hQ (zb Y2.out hb)
  have F3 := hQ (F2.out.below hb)
  have G3 := hQ (show w3.heap[gs]? = some (.cells #[.int .i64 2, .int .i64 100, .int .i64 101] 78 (0, 0)) from hgs)
  clear hb x0 x1 x2 x3 x4 x5 x6 x7 x8 x9 x10 x11 hgs hsz
  have B4 := hQ (B3.out.alloc B3.out.size (.cells #[.slice none 0 0, .slice (some ⟨gs, 0, none⟩) 1 1] 25))
  have K4 := hQ (zg K3.out (.cells #[.slice none 0 0, .slice (some ⟨gs, 0, none⟩) 1 1] 25))
  have X4 := hQ (zg X3.out (.cells #[.slice none 0 0, .slice (some ⟨gs, 0, none⟩) 1 1] 25))
  have Y4 := hQ (zg Y3.out (.cells #[.slice none 0 0, .slice (some ⟨gs, 0, none⟩) 1 1] 25))
  have G4 := hQ (zg G3.out (.cells #[.slice none 0 0, .slice (some ⟨gs, 0, none⟩) 1 1] 25))
  have F4 := hQ (F3.out.below (zn (Below.refl _ _) (.cells #[.slice none 0 0, .slice (some ⟨gs, 0, none⟩) 1 1] 25)))
  go_wp2_with (fail)
  refine (Jh _ w3.heap.size gs 2 100 101 (zi w3 (.cells #[.slice none 0 0, .slice (some ⟨gs, 0, none⟩) 1 1] 25)) (zba G4.out)).mono ?_
  rintro e w5 ⟨A5, c5, rfl, hr, hb⟩
  have B5 := hQ (ze B4.out B4.out.size hb)
  have K5 := hQ (zb K4.out hb)
  have X5 := hQ (zb X4.out hb)
  have Y5 := hQ (zb Y4.out hb)
  have G5 := hQ (zb G4.out hb)
  have F5 := hQ (F4.out.below hb)
  have R5 := hQ hr
  clear hb hr
  go_wp2_with (fail)
  go_at_call 138
  refine (Yg w5 w.heap.size 0).mono ?_
  rintro e w5' ⟨rfl, rfl⟩
  have C6 := hQ ((F5.out.below (zn (Below.refl _ _) (.cells #[.int .i64 0] 3))).at (zg K5.out (.cells #[.int .i64 0] 3)))
  obtain ⟨g5, rfl, i0, i1, i2⟩ := jm (Kd.xO R5.out (.cells #[.int .i64 0] 3))
  go_wp2_with (fail)
  refine (qj _ g5 c5 w.heap.size w5.heap.size 0 2 100 101 2 i0 i1 i2 C6.out (za (zi w5 (.cells #[.int .i64 0] 3)) 0) hwd).mono ?_
  rintro e w6 ⟨rfl, hb⟩
  have hz5 : w5.heap.size ≤ (w5.alloc (.cells #[.int .i64 0] 3)).heap.size := by simp
  have hb5 := ((Below.refl _ _).alloc (Nat.le_refl _) (.cells #[.int .i64 0] 3)).trans (hb.mono hz5)
  have B6 := hQ (ze B5.out B5.out.size hb5)
  have K6 := hQ (zb K5.out hb5)
  have X6 := hQ (zb X5.out hb5)
  have Y6 := hQ (zb Y5.out hb5)
  have G6 := hQ (zb G5.out hb5)
  have F6 := hQ (F5.out.below hb5)
  have R6 := hQ (Kd.zy R5.out hb5)
  clear hb hb5 i0 i1 i2 C6 hz5
  have e0 : ((2 : Int) == 0) = false := by decide
  rw [e0]
  go_wp2_with (fail)
  go_at_call 138
  refine (Yg w6 w.heap.size 2).mono ?_
  rintro e w6' ⟨rfl, rfl⟩
  have C7 := hQ ((F6.out.below (zn (Below.refl _ _) (.cells #[.int .i64 2] 3))).at (zg K6.out (.cells #[.int .i64 2] 3)))
  obtain ⟨g6, eg, i0, i1, i2⟩ := jm (Kd.xO R6.out (.cells #[.int .i64 2] 3))
  cases eg
  go_wp2_with (fail)
  refine (qj _ g5 c5 w.heap.size w6.heap.size 2 2 100 101 2 i0 i1 i2 C7.out (za (zi w6 (.cells #[.int .i64 2] 3)) 0) hwd).mono ?_
  rintro e w7 ⟨rfl, hb⟩
  have hz6 : w6.heap.size ≤ (w6.alloc (.cells #[.int .i64 2] 3)).heap.size := by simp
  have hb6 := ((Below.refl _ _).alloc (Nat.le_refl _) (.cells #[.int .i64 2] 3)).trans (hb.mono hz6)
  have B7 := hQ (ze B6.out B6.out.size hb6)
  have K7 := hQ (zb K6.out hb6)
  have X7 := hQ (zb X6.out hb6)
  have Y7 := hQ (zb Y6.out hb6)
  have G7 := hQ (zb G6.out hb6)
  have F7 := hQ (F6.out.below hb6)
  clear hb hb6 i0 i1 i2 C7 hz6 R5 R6
  have e2 : ((2 : Int) == 2) = true := by decide
  rw [e2]
  obtain ⟨x0, x1, x2, x3, x4, x5, x6, x7, x8, x9, x10, x11⟩ := zW X7.out
  have k2 : w7.cell? ⟨w.heap.size, 2, none⟩ = some (.int .i64 100) := za K7.out 2
  go_wp2_with (fail)
  refine (HC.out w7 (H.out.below B7.out)).mono ?_
  rintro e w10 ⟨rfl, hs, hc⟩
  have Y8 := hQ (hc.cell Y7.out (by decide))
  have L8 := hQ ((Loc.mk' H.out B7.out Y7.out Y7.out (by omega) (by omega) (by decide) (by decide)).step hs hc)
  obtain ⟨y0, y1, y2, y3, y4, y5, y6, y7, y8, y9, y10, y11, y12, y13⟩ := yn Y8.out
  have fy : ∀ i, w10.frozen? ⟨w.heap.size + 1 + 1, i, none⟩ = false := fun i => zh Y8.out i
  simp only [zT, zI]
  go_wp2
  refine bodyPost_ret (v := .agg #[.int .i64 6, .int .i64 exc, .slice none 0 0, .slice none 0 0, .int .i64 at_, .int .i64 0, .int .u16 rv, .int .u16 0, .int .u16 0, .int .i64 0, .int .i64 0, .bool false, .int .i64 0, .slice none 0 0]) ?_ rfl ⟨rfl, ?_⟩
  · simp [results, Tryz.results107, go_sem, hu41, y0, y1, y2, y3, y4, y5, y6, y7, y8, y9, y10, y11, y12, y13]
  · refine And.intro (Loc.slv (w0 := w) (b1 := w.heap.size + 1 + 1) (b2 := w.heap.size + 1 + 1) ?_) (Loc.ch (g := g') (N := N') (b1 := w.heap.size + 1 + 1) (b2 := w.heap.size + 1 + 1) ?_)
    all_goals (repeat (with_reducible first | exact L8.out | (refine Loc.set ?_ (Or.inl rfl))))
end Go.Proofs.YtlalbohhopmpdaaGreat.Top
