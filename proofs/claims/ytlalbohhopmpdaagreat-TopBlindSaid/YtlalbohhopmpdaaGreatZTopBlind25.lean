/- Words and walks for TopBlind (made of the session's own texts; each part by itself). -/
import Derived.Deep.DeepCutAuto
import Derived.Deep.DeepMust
import Derived.Deep.RegionLaw
import Derived.Test.YtlalbohhopmpdaaGreatZTopBlind22
import Derived.Test.YtlalbohhopmpdaaGreatZTopBlind24
set_option maxRecDepth 100000
set_option maxHeartbeats 8000000
set_option linter.unusedVariables false
set_option linter.unusedSimpArgs false
namespace Go.Proofs.YtlalbohhopmpdaaGreat.Top
open Go.RowKit Go.Proofs.YtlalbohhopmpdaaGreat.PTop Go.YW.PrintWords Go.YW.PrintLast Go.YW.PrintMore Go.Proofs.YtlalbohhopmpdaaGreat.Num
attribute [local go_sem] zk zo
theorem zdF (w : World) (B N N' : Nat) (x : Ix) (g g' : Sg) (h : ym w B N x g) (m gr o : Value) (hcfg : qO w m gr) (k : Int) (hk : (Lit.int .i64 k).wf = true) (s1 s2 s3 : Int) (hses : (g.ses k).getD (0, 0, 0) = (s1, s2, s3)) (hs2 : s1 ≠ 2) (a : Int) (n : Nat) (l : List Int) (hl : l.length = n) (ha : 0 ≤ a ∧ a < 256) (hn : 1 ≤ n ∧ n ≤ 16) (hwd : kT 2 a (a + (n : Int)) 1) (hR : VK B N N' x g g' k a (a + (n : Int)) n l) :
    Calls Tryz.prog 107 #[.pointer (some ⟨x.ss, 0, none⟩), .agg (xR m gr o), .int .i64 k, .agg #[.int .i64 3, .int .i64 a, .int .i64 (n : Int), .int .u16 0, .int .u16 0, .int .u16 0, .slice none 0 0, .slice none 0 0, .int .i64 0, .int .i64 0, .int .i64 0, .int .i64 0]] w fun e w' => ∃ A c, e = .returned (yu 3 0 (.slice A n c) 0 0) ∧ n ≤ c ∧ Kd.F (Kd.int .u16) w' (fun k => w.heap.size ≤ k) A n l ∧ ym w' B N' x g' ∧ Ch TS (MS x) B w w' := by
  have hu41 := Tryz.underlying41
  have hu37 := Tryz.underlying37
  have hu30 := Tryz.underlying30
  have hf189 := jT
  have hmf : ∀ (fn : Fn) (first cap : Array Value) (w : World), (Instr.makeFunc fn first cap).run Tryz.prog w = .ok (.func fn first cap) w := fun _ _ _ _ => rfl
  obtain ⟨W1, hW1⟩ : ∃ W1, W1 = ((w.alloc (.cells (xR m gr o) 30)).alloc (.cells #[.int .i64 3, .int .i64 a, .int .i64 (n : Int), .int .u16 0, .int .u16 0, .int .u16 0, .slice none 0 0, .slice none 0 0, .int .i64 0, .int .i64 0, .int .i64 0, .int .i64 0] 37)).alloc (.cells yl 41) := ⟨_, rfl⟩
  have B1 := hQ (show Below w.heap.size w W1 by rw [hW1]; exact ((((Below.refl _ _).alloc (Nat.le_refl _) _).alloc (by simp) _).alloc (by simp; omega) _))
  have K1 := hQ (show W1.heap[w.heap.size]? = some (.cells (xR m gr o) 30 (0, 0)) by rw [hW1]; exact zg (zg (zi w _) _) _)
  have X1 := hQ (show W1.heap[w.heap.size + 1]? = some (.cells #[.int .i64 3, .int .i64 a, .int .i64 (n : Int), .int .u16 0, .int .u16 0, .int .u16 0, .slice none 0 0, .slice none 0 0, .int .i64 0, .int .i64 0, .int .i64 0, .int .i64 0] 37 (0, 0)) by rw [hW1]; exact zg (yS w _ _) _)
  have Y1 := hQ (show W1.heap[w.heap.size + 1 + 1]? = some (.cells yl 41 (0, 0)) by rw [hW1]; have := yS (w.alloc (.cells (xR m gr o) 30)) (.cells #[.int .i64 3, .int .i64 a, .int .i64 (n : Int), .int .u16 0, .int .u16 0, .int .u16 0, .slice none 0 0, .slice none 0 0, .int .i64 0, .int .i64 0, .int .i64 0, .int .i64 0] 37) (.cells yl 41); rwa [show (w.alloc (.cells (xR m gr o) 30)).heap.size = w.heap.size + 1 by simp] at this)
  have F1 := hQ (hcfg.below B1.out)
  rw [hW1] at B1 K1 X1 Y1 F1
  have H := hQ h
  have hS := fun (W : World) (hW : ym W B N x g) => YV W B N x.ss x.en x.bk x.ms x.ticks g.ses hW.ss k hk
  rw [hses] at hS
  dsimp only at hS
  have HS := hQ hS
  have hd1 : decide (s1 = 2) = false := dF hs2
  have hd2 : (s1 == 2) = false := beq_false_of_ne hs2
  clear hS hses
  have HR := hQ hR
  have HA := hQ ha
  have HN := hQ hn
  have HWD := hQ hwd
  have HL := hQ hl
  clear hR ha hn hwd hl
  clear h hW1 hcfg
  simp only [xR, yl] at B1 K1 X1 Y1 F1 ⊢
  obtain ⟨x0, x1, x2, x3, x4, x5, x6, x7, x8, x9, x10, x11⟩ := zV X1.out
  go_enter Tryz.func107, Tryz.ntmps107
  go_wp2_with (fail)
  refine (kD _ a n HA.out (by have := HN.out; omega)).mono ?_
  rintro e w2 ⟨rfl, hb⟩
  have B2 := hQ (zf B1.out B1.out.size hb)
  have K2 := hQ (zb K1.out hb)
  have X2 := hQ (zb X1.out hb)
  have Y2 := hQ (zb Y1.out hb)
  have F2 := hQ (F1.out.below hb)
  clear hb x0 x1 x2 x3 x4 x5 x6 x7 x8 x9 x10 x11
  obtain ⟨x0, x1, x2, x3, x4, x5, x6, x7, x8, x9, x10, x11⟩ := zV X2.out
  go_wp2_with (fail)
  refine (Kh _ a n HA.out (by have := HN.out; omega)).mono ?_
  rintro e w3 ⟨gs, rfl, hgs, hsz, hb⟩
  have B3 := hQ (zf B2.out B2.out.size hb)
  have K3 := hQ (zb K2.out hb)
  have X3 := hQ (zb X2.out hb)
  have Y3 := hQ (zb Y2.out hb)
  have F3 := hQ (F2.out.below hb)
  have G3 := hQ (show w3.heap[gs]? = some (.cells #[.int .i64 2, .int .i64 a, .int .i64 (a + (n : Int))] 78 (0, 0)) from hgs)
  clear hb x0 x1 x2 x3 x4 x5 x6 x7 x8 x9 x10 x11 hgs hsz
  have B4 := hQ (B3.out.alloc B3.out.size (.cells #[.slice (some ⟨gs, 0, none⟩) 1 1, .slice none 0 0] 25))
  have K4 := hQ (zg K3.out (.cells #[.slice (some ⟨gs, 0, none⟩) 1 1, .slice none 0 0] 25))
  have X4 := hQ (zg X3.out (.cells #[.slice (some ⟨gs, 0, none⟩) 1 1, .slice none 0 0] 25))
  have Y4 := hQ (zg Y3.out (.cells #[.slice (some ⟨gs, 0, none⟩) 1 1, .slice none 0 0] 25))
  have G4 := hQ (zg G3.out (.cells #[.slice (some ⟨gs, 0, none⟩) 1 1, .slice none 0 0] 25))
  have F4 := hQ (F3.out.below (zy (Below.refl _ _) (.cells #[.slice (some ⟨gs, 0, none⟩) 1 1, .slice none 0 0] 25)))
  go_wp2_with (fail)
  refine (zav _ w3.heap.size gs 2 a (a + (n : Int)) (zi w3 (.cells #[.slice (some ⟨gs, 0, none⟩) 1 1, .slice none 0 0] 25)) (zcP G4.out)).mono ?_
  rintro e w5 ⟨A5, c5, rfl, hr, hb⟩
  have B5 := hQ (zf B4.out B4.out.size hb)
  have K5 := hQ (zb K4.out hb)
  have X5 := hQ (zb X4.out hb)
  have Y5 := hQ (zb Y4.out hb)
  have G5 := hQ (zb G4.out hb)
  have F5 := hQ (F4.out.below hb)
  have R5 := hQ hr
  clear hb hr
  go_wp2_with (fail)
  go_at_call 138
  refine (XN w5 w.heap.size 0).mono ?_
  rintro e w5' ⟨rfl, rfl⟩
  have C6 := hQ ((F5.out.below (zy (Below.refl _ _) (.cells #[.int .i64 0] 3))).at (zg K5.out (.cells #[.int .i64 0] 3)))
  obtain ⟨g5, rfl, i0, i1, i2⟩ := kF (Kd.qg R5.out (.cells #[.int .i64 0] 3))
  go_wp2_with (fail)
  refine (qZ _ g5 c5 w.heap.size w5.heap.size 0 2 a (a + (n : Int)) 1 i0 i1 i2 C6.out (za (zi w5 (.cells #[.int .i64 0] 3)) 0) HWD.out).mono ?_
  rintro e w6 ⟨rfl, hb⟩
  have hz5 : w5.heap.size ≤ (w5.alloc (.cells #[.int .i64 0] 3)).heap.size := by simp
  have hb5 := ((Below.refl _ _).alloc (Nat.le_refl _) (.cells #[.int .i64 0] 3)).trans (hb.mono hz5)
  have B6 := hQ (zf B5.out B5.out.size hb5)
  have K6 := hQ (zb K5.out hb5)
  have X6 := hQ (zb X5.out hb5)
  have Y6 := hQ (zb Y5.out hb5)
  have G6 := hQ (zb G5.out hb5)
  have F6 := hQ (F5.out.below hb5)
  have R6 := hQ (Kd.zz R5.out hb5)
  clear hb hb5 i0 i1 i2 C6 hz5
  have e0 : ((1 : Int) == 0) = false := by decide
  rw [e0]
  go_wp2_with (fail)
  go_at_call 138
  refine (XN w6 w.heap.size 2).mono ?_
  rintro e w6' ⟨rfl, rfl⟩
  have C7 := hQ ((F6.out.below (zy (Below.refl _ _) (.cells #[.int .i64 2] 3))).at (zg K6.out (.cells #[.int .i64 2] 3)))
  obtain ⟨g6, eg, i0, i1, i2⟩ := kF (Kd.qg R6.out (.cells #[.int .i64 2] 3))
  cases eg
  go_wp2_with (fail)
  refine (qZ _ g5 c5 w.heap.size w6.heap.size 2 2 a (a + (n : Int)) 1 i0 i1 i2 C7.out (za (zi w6 (.cells #[.int .i64 2] 3)) 0) HWD.out).mono ?_
  rintro e w7 ⟨rfl, hb⟩
  have hz6 : w6.heap.size ≤ (w6.alloc (.cells #[.int .i64 2] 3)).heap.size := by simp
  have hb6 := ((Below.refl _ _).alloc (Nat.le_refl _) (.cells #[.int .i64 2] 3)).trans (hb.mono hz6)
  have B7 := hQ (zf B6.out B6.out.size hb6)
  have K7 := hQ (zb K6.out hb6)
  have X7 := hQ (zb X6.out hb6)
  have Y7 := hQ (zb Y6.out hb6)
  have G7 := hQ (zb G6.out hb6)
  have F7 := hQ (F6.out.below hb6)
  clear hb hb6 i0 i1 i2 C7 hz6 R5 R6
  have e2 : ((1 : Int) == 2) = false := by decide
  rw [e2]
  obtain ⟨x0, x1, x2, x3, x4, x5, x6, x7, x8, x9, x10, x11⟩ := zV X7.out
  have k2 : w7.cell? ⟨w.heap.size, 2, none⟩ = some (.int .i64 100) := za K7.out 2
  go_wp2_with (fail)
  refine (QE _ _).mono ?_
  rintro e w8 ⟨rfl, hb⟩
  have B8 := hQ (zf B7.out B7.out.size hb)
  have X8 := hQ (zb X7.out hb)
  have Y8 := hQ (zb Y7.out hb)
  have G8 := hQ (zb G7.out hb)
  clear hb x0 x1 x2 x3 x4 x5 x6 x7 x8 x9 x10 x11
  go_wp2_with (fail)
  refine (HS.out _ (H.out.below B8.out)).mono ?_
  rintro e w9 ⟨rfl, hb⟩
  have B9 := hQ (zf B8.out B8.out.size hb)
  have X9 := hQ (zb X8.out hb)
  have Y9 := hQ (zb Y8.out hb)
  have G9 := hQ (zb G8.out hb)
  clear hb
  obtain ⟨x0, x1, x2, x3, x4, x5, x6, x7, x8, x9, x10, x11⟩ := zV X9.out
  go_wp2_with (fail)
  refine (zc0 w9 B N N' x g g' (H.out.below B9.out) k a (a + (n : Int)) n l HL.out HA.out HN.out HR.out gs 1 G9.out).mono ?_
  rintro e w10 ⟨A, c, rfl, hcc, hF, hs, hc⟩
  have F8 := hQ hF
  have S1 := hQ (zF Y9.out)
  have Y8 := hQ (hc.cell Y9.out (by decide))
  have L8 := hQ ((Loc.mk' H.out B9.out Y9.out Y9.out (by omega) (by omega) (by decide) (by decide)).step hs hc)
  obtain ⟨y0, y1, y2, y3, y4, y5, y6, y7, y8, y9, y10, y11, y12, y13⟩ := yK Y8.out
  have fy : ∀ i, w10.frozen? ⟨w.heap.size + 1 + 1, i, none⟩ = false := fun i => zh Y8.out i
  simp only [yu, zW]
  go_wp2
  refine bodyPost_ret (v := .agg #[.int .i64 3, .int .i64 0, .slice none 0 0, .slice A n c, .int .i64 0, .int .i64 0, .int .u16 0, .int .u16 0, .int .u16 0, .int .i64 0, .int .i64 0, .bool false, .int .i64 0, .slice none 0 0]) ?_ rfl ⟨A, c, rfl, hcc, ?_, ?_⟩
  · simp [results, Tryz.results107, go_sem, hu41, y0, y1, y2, y3, y4, y5, y6, y7, y8, y9, y10, y11, y12, y13]
  · have s1 := S1.out
    refine Kd.qU (ok := fun k => w9.heap.size ≤ k) ?_ (fun k hk => by omega)
    repeat (with_reducible first | exact F8.out | (refine kY ?_ (by omega)))
  · refine And.intro (Loc.slv (w0 := w) (b1 := w.heap.size + 1 + 1) (b2 := w.heap.size + 1 + 1) ?_) (Loc.ch (g := g') (N := N') (b1 := w.heap.size + 1 + 1) (b2 := w.heap.size + 1 + 1) ?_)
    all_goals (repeat (with_reducible first | exact L8.out | (refine Loc.set ?_ (Or.inl rfl))))
theorem zdC (w : World) (B N N' : Nat) (x : Ix) (g g' : Sg) (h : ym w B N x g) (m gr o : Value) (hcfg : qO w m gr) (k : Int) (hk : (Lit.int .i64 k).wf = true) (s1 s2 s3 : Int) (hses : (g.ses k).getD (0, 0, 0) = (s1, s2, s3)) (hs2 : s1 ≠ 2) (a v : Int) (ha : okA a) (hv : 0 ≤ v ∧ v < 65536) (hW : zbr B N N' x g g' k a v) :
    Calls Tryz.prog 107 #[.pointer (some ⟨x.ss, 0, none⟩), .agg (xR m gr o), .int .i64 k, .agg #[.int .i64 6, .int .i64 a, .int .i64 0, .int .u16 v, .int .u16 0, .int .u16 0, .slice none 0 0, .slice none 0 0, .int .i64 0, .int .i64 0, .int .i64 0, .int .i64 0]] w fun e w' => e = .returned (yu 6 0 (.slice none 0 0) a v) ∧ ym w' B N' x g' ∧ Ch TS (MS x) B w w' := by
  have hu41 := Tryz.underlying41
  have hu37 := Tryz.underlying37
  have hu30 := Tryz.underlying30
  have hf189 := jT
  have hmf : ∀ (fn : Fn) (first cap : Array Value) (w : World), (Instr.makeFunc fn first cap).run Tryz.prog w = .ok (.func fn first cap) w := fun _ _ _ _ => rfl
  obtain ⟨W1, hW1⟩ : ∃ W1, W1 = ((w.alloc (.cells (xR m gr o) 30)).alloc (.cells #[.int .i64 6, .int .i64 a, .int .i64 0, .int .u16 v, .int .u16 0, .int .u16 0, .slice none 0 0, .slice none 0 0, .int .i64 0, .int .i64 0, .int .i64 0, .int .i64 0] 37)).alloc (.cells yl 41) := ⟨_, rfl⟩
  have B1 := hQ (show Below w.heap.size w W1 by rw [hW1]; exact ((((Below.refl _ _).alloc (Nat.le_refl _) _).alloc (by simp) _).alloc (by simp; omega) _))
  have K1 := hQ (show W1.heap[w.heap.size]? = some (.cells (xR m gr o) 30 (0, 0)) by rw [hW1]; exact zg (zg (zi w _) _) _)
  have X1 := hQ (show W1.heap[w.heap.size + 1]? = some (.cells #[.int .i64 6, .int .i64 a, .int .i64 0, .int .u16 v, .int .u16 0, .int .u16 0, .slice none 0 0, .slice none 0 0, .int .i64 0, .int .i64 0, .int .i64 0, .int .i64 0] 37 (0, 0)) by rw [hW1]; exact zg (yS w _ _) _)
  have Y1 := hQ (show W1.heap[w.heap.size + 1 + 1]? = some (.cells yl 41 (0, 0)) by rw [hW1]; have := yS (w.alloc (.cells (xR m gr o) 30)) (.cells #[.int .i64 6, .int .i64 a, .int .i64 0, .int .u16 v, .int .u16 0, .int .u16 0, .slice none 0 0, .slice none 0 0, .int .i64 0, .int .i64 0, .int .i64 0, .int .i64 0] 37) (.cells yl 41); rwa [show (w.alloc (.cells (xR m gr o) 30)).heap.size = w.heap.size + 1 by simp] at this)
  have F1 := hQ (hcfg.below B1.out)
  rw [hW1] at B1 K1 X1 Y1 F1
  have H := hQ h
  have hS := fun (W : World) (hW : ym W B N x g) => YV W B N x.ss x.en x.bk x.ms x.ticks g.ses hW.ss k hk
  rw [hses] at hS
  dsimp only at hS
  have HS := hQ hS
  have hd1 : decide (s1 = 2) = false := dF hs2
  have hd2 : (s1 == 2) = false := beq_false_of_ne hs2
  clear hS hses
  have HW := hQ hW
  have HA := hQ ha
  have HV := hQ hv
  have hwd := YY a ha
  clear hW ha hv
  clear h hW1 hcfg
  simp only [xR, yl] at B1 K1 X1 Y1 F1 ⊢
  obtain ⟨x0, x1, x2, x3, x4, x5, x6, x7, x8, x9, x10, x11⟩ := zV X1.out
  go_enter Tryz.func107, Tryz.ntmps107
  go_wp2_with (fail)
  refine (qX _ a v (kZ HA.out) HV.out).mono ?_
  rintro e w2 ⟨rfl, hb⟩
  have B2 := hQ (zf B1.out B1.out.size hb)
  have K2 := hQ (zb K1.out hb)
  have X2 := hQ (zb X1.out hb)
  have Y2 := hQ (zb Y1.out hb)
  have F2 := hQ (F1.out.below hb)
  clear hb x0 x1 x2 x3 x4 x5 x6 x7 x8 x9 x10 x11
  obtain ⟨x0, x1, x2, x3, x4, x5, x6, x7, x8, x9, x10, x11⟩ := zV X2.out
  go_wp2_with (fail)
  refine (Yu _ a v (kZ HA.out) HV.out).mono ?_
  rintro e w3 ⟨gs, rfl, hgs, hsz, hb⟩
  have B3 := hQ (zf B2.out B2.out.size hb)
  have K3 := hQ (zb K2.out hb)
  have X3 := hQ (zb X2.out hb)
  have Y3 := hQ (zb Y2.out hb)
  have F3 := hQ (F2.out.below hb)
  have G3 := hQ (show w3.heap[gs]? = some (.cells #[.int .i64 2, .int .i64 a, .int .i64 (a + 1)] 78 (0, 0)) from hgs)
  clear hb x0 x1 x2 x3 x4 x5 x6 x7 x8 x9 x10 x11 hgs hsz
  have B4 := hQ (B3.out.alloc B3.out.size (.cells #[.slice none 0 0, .slice (some ⟨gs, 0, none⟩) 1 1] 25))
  have K4 := hQ (zg K3.out (.cells #[.slice none 0 0, .slice (some ⟨gs, 0, none⟩) 1 1] 25))
  have X4 := hQ (zg X3.out (.cells #[.slice none 0 0, .slice (some ⟨gs, 0, none⟩) 1 1] 25))
  have Y4 := hQ (zg Y3.out (.cells #[.slice none 0 0, .slice (some ⟨gs, 0, none⟩) 1 1] 25))
  have G4 := hQ (zg G3.out (.cells #[.slice none 0 0, .slice (some ⟨gs, 0, none⟩) 1 1] 25))
  have F4 := hQ (F3.out.below (zy (Below.refl _ _) (.cells #[.slice none 0 0, .slice (some ⟨gs, 0, none⟩) 1 1] 25)))
  go_wp2_with (fail)
  refine (Kg _ w3.heap.size gs 2 a (a + 1) (zi w3 (.cells #[.slice none 0 0, .slice (some ⟨gs, 0, none⟩) 1 1] 25)) (zcP G4.out)).mono ?_
  rintro e w5 ⟨A5, c5, rfl, hr, hb⟩
  have B5 := hQ (zf B4.out B4.out.size hb)
  have K5 := hQ (zb K4.out hb)
  have X5 := hQ (zb X4.out hb)
  have Y5 := hQ (zb Y4.out hb)
  have G5 := hQ (zb G4.out hb)
  have F5 := hQ (F4.out.below hb)
  have R5 := hQ hr
  clear hb hr
  go_wp2_with (fail)
  go_at_call 138
  refine (XN w5 w.heap.size 0).mono ?_
  rintro e w5' ⟨rfl, rfl⟩
  have C6 := hQ ((F5.out.below (zy (Below.refl _ _) (.cells #[.int .i64 0] 3))).at (zg K5.out (.cells #[.int .i64 0] 3)))
  obtain ⟨g5, rfl, i0, i1, i2⟩ := kF (Kd.qg R5.out (.cells #[.int .i64 0] 3))
  go_wp2_with (fail)
  refine (qZ _ g5 c5 w.heap.size w5.heap.size 0 2 a (a + 1) 1 i0 i1 i2 C6.out (za (zi w5 (.cells #[.int .i64 0] 3)) 0) hwd).mono ?_
  rintro e w6 ⟨rfl, hb⟩
  have hz5 : w5.heap.size ≤ (w5.alloc (.cells #[.int .i64 0] 3)).heap.size := by simp
  have hb5 := ((Below.refl _ _).alloc (Nat.le_refl _) (.cells #[.int .i64 0] 3)).trans (hb.mono hz5)
  have B6 := hQ (zf B5.out B5.out.size hb5)
  have K6 := hQ (zb K5.out hb5)
  have X6 := hQ (zb X5.out hb5)
  have Y6 := hQ (zb Y5.out hb5)
  have G6 := hQ (zb G5.out hb5)
  have F6 := hQ (F5.out.below hb5)
  have R6 := hQ (Kd.zz R5.out hb5)
  clear hb hb5 i0 i1 i2 C6 hz5
  have e0 : ((1 : Int) == 0) = false := by decide
  rw [e0]
  go_wp2_with (fail)
  go_at_call 138
  refine (XN w6 w.heap.size 2).mono ?_
  rintro e w6' ⟨rfl, rfl⟩
  have C7 := hQ ((F6.out.below (zy (Below.refl _ _) (.cells #[.int .i64 2] 3))).at (zg K6.out (.cells #[.int .i64 2] 3)))
  obtain ⟨g6, eg, i0, i1, i2⟩ := kF (Kd.qg R6.out (.cells #[.int .i64 2] 3))
  cases eg
  go_wp2_with (fail)
  refine (qZ _ g5 c5 w.heap.size w6.heap.size 2 2 a (a + 1) 1 i0 i1 i2 C7.out (za (zi w6 (.cells #[.int .i64 2] 3)) 0) hwd).mono ?_
  rintro e w7 ⟨rfl, hb⟩
  have hz6 : w6.heap.size ≤ (w6.alloc (.cells #[.int .i64 2] 3)).heap.size := by simp
  have hb6 := ((Below.refl _ _).alloc (Nat.le_refl _) (.cells #[.int .i64 2] 3)).trans (hb.mono hz6)
  have B7 := hQ (zf B6.out B6.out.size hb6)
  have K7 := hQ (zb K6.out hb6)
  have X7 := hQ (zb X6.out hb6)
  have Y7 := hQ (zb Y6.out hb6)
  have G7 := hQ (zb G6.out hb6)
  have F7 := hQ (F6.out.below hb6)
  clear hb hb6 i0 i1 i2 C7 hz6 R5 R6
  have e2 : ((1 : Int) == 2) = false := by decide
  rw [e2]
  obtain ⟨x0, x1, x2, x3, x4, x5, x6, x7, x8, x9, x10, x11⟩ := zV X7.out
  have k2 : w7.cell? ⟨w.heap.size, 2, none⟩ = some (.int .i64 100) := za K7.out 2
  go_wp2_with (fail)
  refine (QX _ gs 1 w.heap.size 2 a (a + 1) false (za G7.out 0) (za G7.out 1) (za G7.out 2) (F7.out.at K7.out) (VX a HA.out)).mono ?_
  rintro e w8 ⟨rfl, hb⟩
  have B8 := hQ (zf B7.out B7.out.size hb)
  have X8 := hQ (zb X7.out hb)
  have Y8 := hQ (zb Y7.out hb)
  have G8 := hQ (zb G7.out hb)
  clear hb x0 x1 x2 x3 x4 x5 x6 x7 x8 x9 x10 x11
  go_wp2_with (fail)
  refine (HS.out _ (H.out.below B8.out)).mono ?_
  rintro e w9 ⟨rfl, hb⟩
  have B9 := hQ (zf B8.out B8.out.size hb)
  have X9 := hQ (zb X8.out hb)
  have Y9 := hQ (zb Y8.out hb)
  have G9 := hQ (zb G8.out hb)
  clear hb
  obtain ⟨x0, x1, x2, x3, x4, x5, x6, x7, x8, x9, x10, x11⟩ := zV X9.out
  go_wp2_with (fail)
  refine (zdb w9 B N N' x g g' (H.out.below B9.out) k a v (kZ HA.out) HV.out HW.out (some ⟨gs, 0, none⟩) 1).mono ?_
  rintro e w10 ⟨rfl, hs, hc⟩
  have Y8 := hQ (hc.cell Y9.out (by decide))
  have L8 := hQ ((Loc.mk' H.out B9.out Y9.out Y9.out (by omega) (by omega) (by decide) (by decide)).step hs hc)
  obtain ⟨y0, y1, y2, y3, y4, y5, y6, y7, y8, y9, y10, y11, y12, y13⟩ := yK Y8.out
  have fy : ∀ i, w10.frozen? ⟨w.heap.size + 1 + 1, i, none⟩ = false := fun i => zh Y8.out i
  simp only [yu, zW]
  go_wp2
  refine bodyPost_ret (v := .agg #[.int .i64 6, .int .i64 0, .slice none 0 0, .slice none 0 0, .int .i64 a, .int .i64 0, .int .u16 v, .int .u16 0, .int .u16 0, .int .i64 0, .int .i64 0, .bool false, .int .i64 0, .slice none 0 0]) ?_ rfl ⟨rfl, ?_⟩
  · simp [results, Tryz.results107, go_sem, hu41, y0, y1, y2, y3, y4, y5, y6, y7, y8, y9, y10, y11, y12, y13]
  · refine And.intro (Loc.slv (w0 := w) (b1 := w.heap.size + 1 + 1) (b2 := w.heap.size + 1 + 1) ?_) (Loc.ch (g := g') (N := N') (b1 := w.heap.size + 1 + 1) (b2 := w.heap.size + 1 + 1) ?_)
    all_goals (repeat (with_reducible first | exact L8.out | (refine Loc.set ?_ (Or.inl rfl))))
theorem WM (w : World) : (binOp .eql 267 (.func (.func 209) #[] #[]) .nilFunc).run Tryz.prog w = .ok (.bool false) w := by kernel_rfl
theorem VU (w : World) : (binOp .eql 267 (.func (.func 210) #[] #[]) .nilFunc).run Tryz.prog w = .ok (.bool false) w := by kernel_rfl
theorem Wx (w : World) : Calls Tryz.prog 178 #[.int .i64 1] w fun e w' => e = .returned (.func (.func 209) #[] #[]) ∧ w' = w := by
  go_enter Tryz.func178, Tryz.ntmps178
  go_wp2
  go_ret
  exact ⟨rfl, rfl⟩
theorem VZ (w : World) : Calls Tryz.prog 178 #[.int .i64 2] w fun e w' => e = .returned (.func (.func 210) #[] #[]) ∧ w' = w := by
  go_enter Tryz.func178, Tryz.ntmps178
  go_wp2
  go_ret
  exact ⟨rfl, rfl⟩
theorem Wl (w : World) (B N N' : Nat) (x : Ix) (g g' : Sg) (h : ym w B N x g) (k : Int) (hO : ∀ w1 : World, ym w1 B N x g → Calls Tryz.prog 209 #[.pointer (some ⟨x.ss, 0, none⟩), .int .i64 k] w1 fun e w' => e = .returned (.int .i64 0) ∧ ym w' B N' x g' ∧ Ch TS (MS x) B w1 w') :
    Calls Tryz.prog 142 #[.pointer (some ⟨x.ss, 0, none⟩), .int .i64 100, .int .i64 k, qF 100 1] w fun e w' => e = .returned (yu 6 0 (.slice none 0 0) 100 1) ∧ ym w' B N' x g' ∧ Ch TS (MS x) B w w' := by
  have hu41 := Tryz.underlying41
  have hu37 := Tryz.underlying37
  obtain ⟨W1, hW1⟩ : ∃ W1, W1 = (w.alloc (.cells (xS 100 1) 37)).alloc (.cells yl 41) := ⟨_, rfl⟩
  have B1 := hQ (show Below w.heap.size w W1 by rw [hW1]; exact ((Below.refl _ _).alloc (Nat.le_refl _) _).alloc (by simp) _)
  have X1 := hQ (show W1.heap[w.heap.size]? = some (.cells (xS 100 1) 37 (0, 0)) by rw [hW1]; exact zg (zi w _) _)
  have Y1 := hQ (show W1.heap[w.heap.size + 1]? = some (.cells yl 41 (0, 0)) by rw [hW1]; exact yS w _ _)
  rw [hW1] at B1 X1 Y1
  have H := hQ h
  have HO := hQ hO
  have hq := WM
  have hE := fun (w : World) => vC w 100 1 (by omega) (by omega)
  clear h hW1 hO
  simp only [qF, xS, yl, yu, zW] at B1 X1 Y1 hE ⊢
  obtain ⟨x0, x1, x2, x3, x4, x5, x6, x7, x8, x9, x10, x11⟩ := zV X1.out
  go_enter Tryz.func142, Tryz.ntmps142
  go_wp2_with (fail)
  refine (zaJ _ 1 (by decide)).mono ?_
  rintro e w2 ⟨rfl, hb⟩
  have B2 := hQ (zf B1.out B1.out.size hb)
  have X2 := hQ (zb X1.out hb)
  have Y2 := hQ (zb Y1.out hb)
  clear hb x0 x1 x2 x3 x4 x5 x6 x7 x8 x9 x10 x11
  go_wp2_with (fail)
  refine (Wx w2).mono ?_
  rintro e w2' ⟨rfl, rfl⟩
  go_wp2_with (fail)
  go_at_call 209
  refine (HO.out _ (H.out.below B2.out)).mono ?_
  rintro e w3 ⟨rfl, hs, hc⟩
  have L3 := hQ ((Loc.mk' H.out B2.out Y2.out Y2.out (by omega) (by omega) (by decide) (by decide)).step hs hc)
  have X3 := hQ (hc.cell X2.out (by decide))
  have Y3 := hQ (hc.cell Y2.out (by decide))
  clear hs hc
  obtain ⟨x0, x1, x2, x3, x4, x5, x6, x7, x8, x9, x10, x11⟩ := zV X3.out
  go_wp2_with (fail)
  refine (hE _).mono ?_
  rintro e w4 ⟨rfl, hb⟩
  have L4 := hQ (L3.out.below hb)
  have Y4 := hQ (zb Y3.out hb)
  clear hb x0 x1 x2 x3 x4 x5 x6 x7 x8 x9 x10 x11
  obtain ⟨y0, y1, y2, y3, y4, y5, y6, y7, y8, y9, y10, y11, y12, y13⟩ := yK Y4.out
  have fy : ∀ i, w4.frozen? ⟨w.heap.size + 1, i, none⟩ = false := fun i => zh Y4.out i
  go_wp2
  refine bodyPost_ret (v := .agg #[.int .i64 6, .int .i64 0, .slice none 0 0, .slice none 0 0, .int .i64 100, .int .i64 0, .int .u16 1, .int .u16 0, .int .u16 0, .int .i64 0, .int .i64 0, .bool false, .int .i64 0, .slice none 0 0]) ?_ rfl ⟨rfl, ?_⟩
  · simp [results, Tryz.results142, go_sem, hu41, y0, y1, y2, y3, y4, y5, y6, y7, y8, y9, y10, y11, y12, y13]
  · refine And.intro (Loc.slv (w0 := w) (b1 := w.heap.size + 1) (b2 := w.heap.size + 1) ?_) (Loc.ch (g := g') (N := N') (b1 := w.heap.size + 1) (b2 := w.heap.size + 1) ?_)
    all_goals (repeat (with_reducible first | exact L4.out | (refine Loc.set ?_ (Or.inl rfl))))
theorem XO (w : World) (B N N' : Nat) (x : Ix) (g g' : Sg) (h : ym w B N x g) (k : Int) (hO : ∀ w1 : World, ym w1 B N x g → Calls Tryz.prog 210 #[.pointer (some ⟨x.ss, 0, none⟩), .int .i64 k] w1 fun e w' => e = .returned (.int .i64 0) ∧ ym w' B N' x g' ∧ Ch TS (MS x) B w1 w') :
    Calls Tryz.prog 142 #[.pointer (some ⟨x.ss, 0, none⟩), .int .i64 100, .int .i64 k, qF 100 2] w fun e w' => e = .returned (yu 6 0 (.slice none 0 0) 100 2) ∧ ym w' B N' x g' ∧ Ch TS (MS x) B w w' := by
  have hu41 := Tryz.underlying41
  have hu37 := Tryz.underlying37
  obtain ⟨W1, hW1⟩ : ∃ W1, W1 = (w.alloc (.cells (xS 100 2) 37)).alloc (.cells yl 41) := ⟨_, rfl⟩
  have B1 := hQ (show Below w.heap.size w W1 by rw [hW1]; exact ((Below.refl _ _).alloc (Nat.le_refl _) _).alloc (by simp) _)
  have X1 := hQ (show W1.heap[w.heap.size]? = some (.cells (xS 100 2) 37 (0, 0)) by rw [hW1]; exact zg (zi w _) _)
  have Y1 := hQ (show W1.heap[w.heap.size + 1]? = some (.cells yl 41 (0, 0)) by rw [hW1]; exact yS w _ _)
  rw [hW1] at B1 X1 Y1
  have H := hQ h
  have HO := hQ hO
  have hq := VU
  have hE := fun (w : World) => vC w 100 2 (by omega) (by omega)
  clear h hW1 hO
  simp only [qF, xS, yl, yu, zW] at B1 X1 Y1 hE ⊢
  obtain ⟨x0, x1, x2, x3, x4, x5, x6, x7, x8, x9, x10, x11⟩ := zV X1.out
  go_enter Tryz.func142, Tryz.ntmps142
  go_wp2_with (fail)
  refine (zaJ _ 2 (by decide)).mono ?_
  rintro e w2 ⟨rfl, hb⟩
  have B2 := hQ (zf B1.out B1.out.size hb)
  have X2 := hQ (zb X1.out hb)
  have Y2 := hQ (zb Y1.out hb)
  clear hb x0 x1 x2 x3 x4 x5 x6 x7 x8 x9 x10 x11
  go_wp2_with (fail)
  refine (VZ w2).mono ?_
  rintro e w2' ⟨rfl, rfl⟩
  go_wp2_with (fail)
  go_at_call 210
  refine (HO.out _ (H.out.below B2.out)).mono ?_
  rintro e w3 ⟨rfl, hs, hc⟩
  have L3 := hQ ((Loc.mk' H.out B2.out Y2.out Y2.out (by omega) (by omega) (by decide) (by decide)).step hs hc)
  have X3 := hQ (hc.cell X2.out (by decide))
  have Y3 := hQ (hc.cell Y2.out (by decide))
  clear hs hc
  obtain ⟨x0, x1, x2, x3, x4, x5, x6, x7, x8, x9, x10, x11⟩ := zV X3.out
  go_wp2_with (fail)
  refine (hE _).mono ?_
  rintro e w4 ⟨rfl, hb⟩
  have L4 := hQ (L3.out.below hb)
  have Y4 := hQ (zb Y3.out hb)
  clear hb x0 x1 x2 x3 x4 x5 x6 x7 x8 x9 x10 x11
  obtain ⟨y0, y1, y2, y3, y4, y5, y6, y7, y8, y9, y10, y11, y12, y13⟩ := yK Y4.out
  have fy : ∀ i, w4.frozen? ⟨w.heap.size + 1, i, none⟩ = false := fun i => zh Y4.out i
  go_wp2
  refine bodyPost_ret (v := .agg #[.int .i64 6, .int .i64 0, .slice none 0 0, .slice none 0 0, .int .i64 100, .int .i64 0, .int .u16 2, .int .u16 0, .int .u16 0, .int .i64 0, .int .i64 0, .bool false, .int .i64 0, .slice none 0 0]) ?_ rfl ⟨rfl, ?_⟩
  · simp [results, Tryz.results142, go_sem, hu41, y0, y1, y2, y3, y4, y5, y6, y7, y8, y9, y10, y11, y12, y13]
  · refine And.intro (Loc.slv (w0 := w) (b1 := w.heap.size + 1) (b2 := w.heap.size + 1) ?_) (Loc.ch (g := g') (N := N') (b1 := w.heap.size + 1) (b2 := w.heap.size + 1) ?_)
    all_goals (repeat (with_reducible first | exact L4.out | (refine Loc.set ?_ (Or.inl rfl))))
theorem zd4 (w : World) (B N N' : Nat) (x : Ix) (g g' : Sg) (h : ym w B N x g) (m gr o : Value) (hcfg : qO w m gr) (k : Int) (hk : (Lit.int .i64 k).wf = true) (v exc at_ rv : Int) (hv : 0 ≤ v ∧ v < 65536) (hC : ∀ w1 : World, ym w1 B N x g → Calls Tryz.prog 142 #[.pointer (some ⟨x.ss, 0, none⟩), .int .i64 100, .int .i64 k, qF 100 v] w1 fun e w' => e = .returned (yu 6 exc (.slice none 0 0) at_ rv) ∧ ym w' B N' x g' ∧ Ch TS (MS x) B w1 w') :
    Calls Tryz.prog 107 #[.pointer (some ⟨x.ss, 0, none⟩), .agg (xR m gr o), .int .i64 k, .agg #[.int .i64 6, .int .i64 100, .int .i64 0, .int .u16 v, .int .u16 0, .int .u16 0, .slice none 0 0, .slice none 0 0, .int .i64 0, .int .i64 0, .int .i64 0, .int .i64 0]] w fun e w' => e = .returned (yu 6 exc (.slice none 0 0) at_ rv) ∧ ym w' B N' x g' ∧ Ch TS (MS x) B w w' := by
  have hu41 := Tryz.underlying41
  have hu37 := Tryz.underlying37
  have hu30 := Tryz.underlying30
  have hf189 := jT
  have hmf : ∀ (fn : Fn) (first cap : Array Value) (w : World), (Instr.makeFunc fn first cap).run Tryz.prog w = .ok (.func fn first cap) w := fun _ _ _ _ => rfl
  obtain ⟨W1, hW1⟩ : ∃ W1, W1 = ((w.alloc (.cells (xR m gr o) 30)).alloc (.cells #[.int .i64 6, .int .i64 100, .int .i64 0, .int .u16 v, .int .u16 0, .int .u16 0, .slice none 0 0, .slice none 0 0, .int .i64 0, .int .i64 0, .int .i64 0, .int .i64 0] 37)).alloc (.cells yl 41) := ⟨_, rfl⟩
  have B1 := hQ (show Below w.heap.size w W1 by rw [hW1]; exact ((((Below.refl _ _).alloc (Nat.le_refl _) _).alloc (by simp) _).alloc (by simp; omega) _))
  have K1 := hQ (show W1.heap[w.heap.size]? = some (.cells (xR m gr o) 30 (0, 0)) by rw [hW1]; exact zg (zg (zi w _) _) _)
  have X1 := hQ (show W1.heap[w.heap.size + 1]? = some (.cells #[.int .i64 6, .int .i64 100, .int .i64 0, .int .u16 v, .int .u16 0, .int .u16 0, .slice none 0 0, .slice none 0 0, .int .i64 0, .int .i64 0, .int .i64 0, .int .i64 0] 37 (0, 0)) by rw [hW1]; exact zg (yS w _ _) _)
  have Y1 := hQ (show W1.heap[w.heap.size + 1 + 1]? = some (.cells yl 41 (0, 0)) by rw [hW1]; have := yS (w.alloc (.cells (xR m gr o) 30)) (.cells #[.int .i64 6, .int .i64 100, .int .i64 0, .int .u16 v, .int .u16 0, .int .u16 0, .slice none 0 0, .slice none 0 0, .int .i64 0, .int .i64 0, .int .i64 0, .int .i64 0] 37) (.cells yl 41); rwa [show (w.alloc (.cells (xR m gr o) 30)).heap.size = w.heap.size + 1 by simp] at this)
  have F1 := hQ (hcfg.below B1.out)
  rw [hW1] at B1 K1 X1 Y1 F1
  have H := hQ h
  have HC := hQ hC
  have HV := hQ hv
  have hwd := Kv
  clear hC hv
  clear h hW1 hcfg
  simp only [xR, yl] at B1 K1 X1 Y1 F1 ⊢
  obtain ⟨x0, x1, x2, x3, x4, x5, x6, x7, x8, x9, x10, x11⟩ := zV X1.out
  go_enter Tryz.func107, Tryz.ntmps107
  go_wp2_with (fail)
  refine (qX _ 100 v (by omega) HV.out).mono ?_
  rintro e w2 ⟨rfl, hb⟩
  have B2 := hQ (zf B1.out B1.out.size hb)
  have K2 := hQ (zb K1.out hb)
  have X2 := hQ (zb X1.out hb)
  have Y2 := hQ (zb Y1.out hb)
  have F2 := hQ (F1.out.below hb)
  clear hb x0 x1 x2 x3 x4 x5 x6 x7 x8 x9 x10 x11
  obtain ⟨x0, x1, x2, x3, x4, x5, x6, x7, x8, x9, x10, x11⟩ := zV X2.out
  go_wp2_with (fail)
  refine (Yu _ 100 v (by omega) HV.out).mono ?_
  rintro e w3 ⟨gs, rfl, hgs, hsz, hb⟩
  have B3 := hQ (zf B2.out B2.out.size hb)
  have K3 := hQ (zb K2.out hb)
  have X3 := hQ (zb X2.out hb)
  have Y3 := hQ (zb Y2.out hb)
  have F3 := hQ (F2.out.below hb)
  have G3 := hQ (show w3.heap[gs]? = some (.cells #[.int .i64 2, .int .i64 100, .int .i64 101] 78 (0, 0)) from hgs)
  clear hb x0 x1 x2 x3 x4 x5 x6 x7 x8 x9 x10 x11 hgs hsz
  have B4 := hQ (B3.out.alloc B3.out.size (.cells #[.slice none 0 0, .slice (some ⟨gs, 0, none⟩) 1 1] 25))
  have K4 := hQ (zg K3.out (.cells #[.slice none 0 0, .slice (some ⟨gs, 0, none⟩) 1 1] 25))
  have X4 := hQ (zg X3.out (.cells #[.slice none 0 0, .slice (some ⟨gs, 0, none⟩) 1 1] 25))
  have Y4 := hQ (zg Y3.out (.cells #[.slice none 0 0, .slice (some ⟨gs, 0, none⟩) 1 1] 25))
  have G4 := hQ (zg G3.out (.cells #[.slice none 0 0, .slice (some ⟨gs, 0, none⟩) 1 1] 25))
  have F4 := hQ (F3.out.below (zy (Below.refl _ _) (.cells #[.slice none 0 0, .slice (some ⟨gs, 0, none⟩) 1 1] 25)))
  go_wp2_with (fail)
  refine (Kg _ w3.heap.size gs 2 100 101 (zi w3 (.cells #[.slice none 0 0, .slice (some ⟨gs, 0, none⟩) 1 1] 25)) (zcP G4.out)).mono ?_
  rintro e w5 ⟨A5, c5, rfl, hr, hb⟩
  have B5 := hQ (zf B4.out B4.out.size hb)
  have K5 := hQ (zb K4.out hb)
  have X5 := hQ (zb X4.out hb)
  have Y5 := hQ (zb Y4.out hb)
  have G5 := hQ (zb G4.out hb)
  have F5 := hQ (F4.out.below hb)
  have R5 := hQ hr
  clear hb hr
  go_wp2_with (fail)
  go_at_call 138
  refine (XN w5 w.heap.size 0).mono ?_
  rintro e w5' ⟨rfl, rfl⟩
  have C6 := hQ ((F5.out.below (zy (Below.refl _ _) (.cells #[.int .i64 0] 3))).at (zg K5.out (.cells #[.int .i64 0] 3)))
  obtain ⟨g5, rfl, i0, i1, i2⟩ := kF (Kd.qg R5.out (.cells #[.int .i64 0] 3))
  go_wp2_with (fail)
  refine (qZ _ g5 c5 w.heap.size w5.heap.size 0 2 100 101 2 i0 i1 i2 C6.out (za (zi w5 (.cells #[.int .i64 0] 3)) 0) hwd).mono ?_
  rintro e w6 ⟨rfl, hb⟩
  have hz5 : w5.heap.size ≤ (w5.alloc (.cells #[.int .i64 0] 3)).heap.size := by simp
  have hb5 := ((Below.refl _ _).alloc (Nat.le_refl _) (.cells #[.int .i64 0] 3)).trans (hb.mono hz5)
  have B6 := hQ (zf B5.out B5.out.size hb5)
  have K6 := hQ (zb K5.out hb5)
  have X6 := hQ (zb X5.out hb5)
  have Y6 := hQ (zb Y5.out hb5)
  have G6 := hQ (zb G5.out hb5)
  have F6 := hQ (F5.out.below hb5)
  have R6 := hQ (Kd.zz R5.out hb5)
  clear hb hb5 i0 i1 i2 C6 hz5
  have e0 : ((2 : Int) == 0) = false := by decide
  rw [e0]
  go_wp2_with (fail)
  go_at_call 138
  refine (XN w6 w.heap.size 2).mono ?_
  rintro e w6' ⟨rfl, rfl⟩
  have C7 := hQ ((F6.out.below (zy (Below.refl _ _) (.cells #[.int .i64 2] 3))).at (zg K6.out (.cells #[.int .i64 2] 3)))
  obtain ⟨g6, eg, i0, i1, i2⟩ := kF (Kd.qg R6.out (.cells #[.int .i64 2] 3))
  cases eg
  go_wp2_with (fail)
  refine (qZ _ g5 c5 w.heap.size w6.heap.size 2 2 100 101 2 i0 i1 i2 C7.out (za (zi w6 (.cells #[.int .i64 2] 3)) 0) hwd).mono ?_
  rintro e w7 ⟨rfl, hb⟩
  have hz6 : w6.heap.size ≤ (w6.alloc (.cells #[.int .i64 2] 3)).heap.size := by simp
  have hb6 := ((Below.refl _ _).alloc (Nat.le_refl _) (.cells #[.int .i64 2] 3)).trans (hb.mono hz6)
  have B7 := hQ (zf B6.out B6.out.size hb6)
  have K7 := hQ (zb K6.out hb6)
  have X7 := hQ (zb X6.out hb6)
  have Y7 := hQ (zb Y6.out hb6)
  have G7 := hQ (zb G6.out hb6)
  have F7 := hQ (F6.out.below hb6)
  clear hb hb6 i0 i1 i2 C7 hz6 R5 R6
  have e2 : ((2 : Int) == 2) = true := by decide
  rw [e2]
  obtain ⟨x0, x1, x2, x3, x4, x5, x6, x7, x8, x9, x10, x11⟩ := zV X7.out
  have k2 : w7.cell? ⟨w.heap.size, 2, none⟩ = some (.int .i64 100) := za K7.out 2
  go_wp2_with (fail)
  refine (HC.out w7 (H.out.below B7.out)).mono ?_
  rintro e w10 ⟨rfl, hs, hc⟩
  have Y8 := hQ (hc.cell Y7.out (by decide))
  have L8 := hQ ((Loc.mk' H.out B7.out Y7.out Y7.out (by omega) (by omega) (by decide) (by decide)).step hs hc)
  obtain ⟨y0, y1, y2, y3, y4, y5, y6, y7, y8, y9, y10, y11, y12, y13⟩ := yK Y8.out
  have fy : ∀ i, w10.frozen? ⟨w.heap.size + 1 + 1, i, none⟩ = false := fun i => zh Y8.out i
  simp only [yu, zW]
  go_wp2
  refine bodyPost_ret (v := .agg #[.int .i64 6, .int .i64 exc, .slice none 0 0, .slice none 0 0, .int .i64 at_, .int .i64 0, .int .u16 rv, .int .u16 0, .int .u16 0, .int .i64 0, .int .i64 0, .bool false, .int .i64 0, .slice none 0 0]) ?_ rfl ⟨rfl, ?_⟩
  · simp [results, Tryz.results107, go_sem, hu41, y0, y1, y2, y3, y4, y5, y6, y7, y8, y9, y10, y11, y12, y13]
  · refine And.intro (Loc.slv (w0 := w) (b1 := w.heap.size + 1 + 1) (b2 := w.heap.size + 1 + 1) ?_) (Loc.ch (g := g') (N := N') (b1 := w.heap.size + 1 + 1) (b2 := w.heap.size + 1 + 1) ?_)
    all_goals (repeat (with_reducible first | exact L8.out | (refine Loc.set ?_ (Or.inl rfl))))
end Go.Proofs.YtlalbohhopmpdaaGreat.Top
namespace Go.Proofs.YtlalbohhopmpdaaGreat.Top
open Go.RowKit Go.Proofs.YtlalbohhopmpdaaGreat.PTop Go.YW.PrintWords Go.YW.PrintLast Go.YW.PrintMore Go.Proofs.YtlalbohhopmpdaaGreat.Num
open Go.Proofs.YtlalbohhopmpdaaGreat.LemHeadTop Go.Proofs.YtlalbohhopmpdaaGreat.LemAduTop
def yV (w : World) (B N' : Nat) (x : Ix) (g' : Sg) (tb gb dk n : Nat) (L : Nat → Nat → Nat) (k : Int) (c : Nat) (fn at_ nn v exc : Int) (lw : List Int) (ra rv : Int) : Prop :=
  Calls Tryz.prog 10 #[.pointer (some ⟨tb, 0, none⟩), .int .i64 (c : Int), .agg #[.int .i64 fn, .int .i64 at_, .int .i64 nn, .int .u16 v, .int .u16 0, .int .u16 0, .slice none 0 0, .slice none 0 0, .int .i64 0, .int .i64 0, .int .i64 0, .int .i64 0]] w fun e w' =>
    ∃ A q, e = .returned (.tuple #[yu fn exc (.slice A lw.length q) ra rv, .bool true]) ∧ Kd.R (Kd.int .u16) 33 w' w.heap.size (fun _ => True) (.slice A lw.length q) lw ∧ xz w' B N' x g' tb gb dk n L (k + 1) ∧ Ch TT (MS x) B w w'
section
variable {w : World} {B N : Nat} {x : Ix} {g : Sg} {tb gb dk n : Nat} {L : Nat → Nat → Nat} {k : Int}
theorem Yy {c : Nat} (hc : c < 3) : (Lit.int .i64 (c : Int)).wf = true := by
  obtain rfl | rfl | rfl : c = 0 ∨ c = 1 ∨ c = 2 := by omega
  all_goals rfl
theorem lim (h : N ≤ 1000000) : N + 3000 < maxLen := by unfold maxLen; omega
theorem Zu (h : xz w B N x g tb gb dk n L k) (hk : 0 ≤ k ∧ k < 1000) (hN : N ≤ 1000000) (c : Nat) (hc : c < n) (v : Int) (hv : 0 ≤ v ∧ v < 65536) (N' : Nat) (g' : Sg) (exc ra rv : Int) (bl : List Int) (hbl : bl.length ≤ 100) (hbl1 : 1 ≤ bl.length) (hb8 : B8 bl)
    (hC : ∀ w1 : World, ym w1 B (N + 1) x g → Calls Tryz.prog 142 #[.pointer (some ⟨x.ss, 0, none⟩), .int .i64 100, .int .i64 (c : Int), qF 100 v] w1 fun e w' => e = .returned (yu 6 exc (.slice none 0 0) ra rv) ∧ ym w' B N' x g' ∧ Ch TS (MS x) B w1 w')
    (hB : ∀ w1 : World, Calls Tryz.prog 108 #[yu 6 exc (.slice none 0 0) ra rv] w1 fun e w' => ∃ A c, e = .returned (.tuple #[.slice A bl.length c, .int .i64 0]) ∧ bl.length ≤ c ∧ Kd.F (Kd.int .u8) w' (fun k => w1.heap.size ≤ k) A bl.length bl ∧ Below w1.heap.size w1 w')
    (hP : Ym 6 exc [] ra rv 0 bl) : yV w B N' x g' tb gb dk n L k c 6 100 0 v exc [] ra rv := by
  have hn3 := h.gt.desk.le
  have hwf := Yy (c := c) (by omega)
  have hl := lim hN
  refine vI w B N N' x g g' tb gb dk n L k h hk c hc 6 100 0 v [6, 0, 100, v / 256, v % 256] bl rfl (JV 100 v (by omega) hv) (Qq 100 v (k + 1) c (by omega) hv (by omega) (by omega)) ?_ (by unfold Ok; omega) hb8 exc [] ra rv hP
  intro w1 m gr o g0 cap B0 hs hcf hR
  exact Qj w1 B N N' x g g' hs (by omega) m gr o hcf c hwf 100 v exc ra rv (by omega) hv (fun w2 hs2 hcf2 => zd4 w2 B (N + 1) N' x g g' hs2 m gr o hcf2 c hwf v exc ra rv hv hC) bl bl.length hB g0 cap B0 hR
theorem vF (a v : Int) (ha : 0 ≤ a ∧ a < 256) (hv : 0 ≤ v ∧ v < 65536) (w1 : World) : Calls Tryz.prog 108 #[yu 6 0 (.slice none 0 0) a v] w1 fun e w' => ∃ A c, e = .returned (.tuple #[.slice A ([6, 0, a, v / 256, v % 256] : List Int).length c, .int .i64 0]) ∧ ([6, 0, a, v / 256, v % 256] : List Int).length ≤ c ∧ Kd.F (Kd.int .u8) w' (fun k => w1.heap.size ≤ k) A ([6, 0, a, v / 256, v % 256] : List Int).length [6, 0, a, v / 256, v % 256] ∧ Below w1.heap.size w1 w' :=
  Qy w1 a v ha hv none 0 none 0 none 0
theorem Zw (h : xz w B N x g tb gb dk n L k) (hk : 0 ≤ k ∧ k < 1000) (hN : N ≤ 1000000) (c : Nat) (hc : c < n) (hno : g.vs c = none) (hst : ((g.ses c).getD (0, 0, 0)).1 ≠ 1) (hm : (g.nv : Int) < x.most) :
    yV w B (N + 4) x ((g.put c ⟨g.s.last, [], []⟩).turn c (1, 0, g.s.last)) tb gb dk n L k c 6 100 0 1 0 [] 100 1 := by
  have hwf := Yy (c := c) (by have := h.gt.desk.le; omega)
  have hl := lim hN
  refine Zu h hk hN c hc 1 (by omega) (N + 4) _ 0 100 1 [6, 0, 100, 1 / 256, 1 % 256] (by decide) (by decide) (JV 100 1 (by omega) (by omega)) (fun w1 hs => ?_) (vF 100 1 (by omega) (by omega)) (vM 100 1 0 (.inr rfl) (by omega) (by omega))
  exact Wl w1 B (N + 1) (N + 4) x g _ hs c (fun w2 hs2 => KM w2 B (N + 1) x g hs2 (by omega) c hwf hno hst hm)
theorem JK (h : xz w B N x g tb gb dk n L k) (hk : 0 ≤ k ∧ k < 1000) (hN : N ≤ 1000000) (c : Nat) (hc : c < n) (hs0 : kG g.s.ch) (hst : ((g.ses c).getD (0, 0, 0)).1 = 1) (q : Int) (rs : List S78) (y : yg) (hv0 : g.vs c = some ⟨q, rs, [y]⟩) (hr : vU rs) (hy : qw y) (hlast : 0 ≤ g.s.last ∧ g.s.last < 1000000) (hfull : 0 ≤ g.s.n ∧ g.s.n + 1 ≤ g.s.most ∧ g.s.most ≤ 1000000) (hf : xO g.s.ch rs q = true) :
    yV w B (N + 3) x (g.scommit c ⟨q, rs, [y]⟩) tb gb dk n L k c 6 100 0 2 0 [] 100 2 := by
  have hwf := Yy (c := c) (by have := h.gt.desk.le; omega)
  have hl := lim hN
  refine Zu h hk hN c hc 2 (by omega) (N + 3) _ 0 100 2 [6, 0, 100, 2 / 256, 2 % 256] (by decide) (by decide) (JV 100 2 (by omega) (by omega)) (fun w1 hs => ?_) (vF 100 2 (by omega) (by omega)) (vM 100 2 0 (.inr rfl) (by omega) (by omega))
  refine XO w1 B (N + 1) (N + 3) x g _ hs c (fun w2 hs2 => ?_)
  have hC := Ju w2 B (N + 1) x g hs2 (by omega) hs0 c hwf hst q rs y hv0 hr hy hlast hfull
  rw [hf] at hC
  exact hC
theorem Va (h : xz w B N x g tb gb dk n L k) (hk : 0 ≤ k ∧ k < 1000) (hN : N ≤ 1000000) (c : Nat) (hc : c < n) (a v : Int) (ha : okA a) (hv : 0 ≤ v ∧ v < 65536) (hst : ((g.ses c).getD (0, 0, 0)).1 = 1) (q : Int) (rs : List S78) (hrs : rs.length ≤ 1000) (hv0 : g.vs c = some ⟨q, rs, []⟩) (hwr : x.writes = 2000) :
    yV w B (N + 2) x (g.put c ⟨q, rs, [⟨⟨2, a⟩, v⟩]⟩) tb gb dk n L k c 6 a 0 v 0 [] a v := by
  have hn3 := h.gt.desk.le
  have hwf := Yy (c := c) (by omega)
  have hl := lim hN
  have hla := kZ ha
  have hy : qw (⟨⟨2, a⟩, v⟩ : yg) := ⟨rfl, hla.1, by show a < 65536; omega⟩
  refine vI w B N (N + 2) x g _ tb gb dk n L k h hk c hc 6 a 0 v [6, 0, a, v / 256, v % 256] [6, 0, a, v / 256, v % 256] rfl (JV a v hla hv) (Qq a v (k + 1) c hla hv (by omega) (by omega)) ?_ (by unfold Ok; simp; omega) (JV a v hla hv) 0 [] a v (vM a v 0 (.inl ha) hla hv)
  intro w1 m gr o g0 cap B0 hs hcf hR
  refine Qj w1 B N (N + 2) x g _ hs (by omega) m gr o hcf c hwf a v 0 a v hla hv (fun w2 hs2 hcf2 => ?_) [6, 0, a, v / 256, v % 256] 5 (vF a v hla hv) g0 cap B0 hR
  rcases hses : (g.ses c).getD (0, 0, 0) with ⟨s1, s2, s3⟩
  have h1 : s1 = 1 := by rw [hses] at hst; exact hst
  exact zdC w2 B (N + 1) (N + 2) x g _ hs2 m gr o hcf2 c hwf s1 s2 s3 hses (by omega) a v ha hv (fun w3 A c' B3 hs3 hl3 => YA w3 B (N + 1) x g hs3 (by omega) c hwf hst q rs hrs hv0 hwr A c' B3 _ hy hl3)
theorem zby (a y : Int) (N' : Nat) (g' : Sg) (c : Nat) (hc : c < 3) (hN : N ≤ 1000000) (ha : okA a) (s1 s2 s3 : Int) (hses : (g.ses c).getD (0, 0, 0) = (s1, s2, s3)) (hs2 : s1 ≠ 2) (hR : VK B (N + 1) N' x g g' c a (a + 1) 1 [y]) : jP B N N' x g g' c [3, 0, a, 0, 1] (3 :: 2 * (([y] : List Int).length : Int) :: yx [y]) := by
  have hl := lim hN
  intro w1 m gr o g0 cap B0 hs hcf hP
  exact Vy w1 B N N' x g g' hs (by omega) m gr o hcf c (Yy hc) a 1 [y] rfl (kZ ha) (by omega) (fun w2 hs2' hcf2 => zdF w2 B (N + 1) N' x g g' hs2' m gr o hcf2 c (Yy hc) s1 s2 s3 hses hs2 a 1 [y] rfl (kZ ha) (by omega) (YY a ha) hR) g0 cap B0 hP
theorem XJ (h : xz w B N x g tb gb dk n L k) (hk : 0 ≤ k ∧ k < 1000) (hN : N ≤ 1000000) (c : Nat) (hc : c < n) (a y : Int) (ha : okA a) (hy : 0 ≤ y ∧ y < 65536) (hs0 : kG g.s.ch) (hst : ((g.ses c).getD (0, 0, 0)).1 = 0) (hx : jK g.s.ch 2 a g.s.last 1 = [y]) :
    yV w B (N + 1) x g tb gb dk n L k c 3 a 1 0 0 [y] 0 0 := by
  have hn3 := h.gt.desk.le
  have hl := lim hN
  have hla := kZ ha
  rcases hses : (g.ses c).getD (0, 0, 0) with ⟨s1, s2, s3⟩
  have h1 : s1 = 0 := by rw [hses] at hst; exact hst
  refine vI w B N (N + 1) x g _ tb gb dk n L k h hk c hc 3 a 1 0 [3, 0, a, 0, 1] _ rfl (zdL a 1 hla (by omega)) (VG a 1 (k + 1) c hla (by omega) (by omega) (by omega)) (zby a y (N + 1) _ c (by omega) hN ha s1 s2 s3 hses (by omega) (fun w3 hs3 => ?_)) (by unfold Ok; simp [yx]; omega) (zcx [y] (by simp)) 0 [y] 0 0 (zbj y 1 hy)
  have hr := vE w3 B (N + 1) x g hs3 (by omega) hs0 c (Yy (by omega)) hst 2 a (a + 1) (by omega) (by omega) 1 (by omega)
  rw [hx] at hr
  refine hr.mono ?_
  rintro e w4 ⟨A, c', rfl, hr4, hb⟩
  exact ⟨A, c', rfl, hr4, hs3.below hb, hs3.chb hb⟩
end
end Go.Proofs.YtlalbohhopmpdaaGreat.Top
namespace Go.Proofs.YtlalbohhopmpdaaGreat.Top
open Go.Proofs.YtlalbohhopmpdaaGreat.Tiny
open Go.RowKit Go.Proofs.YtlalbohhopmpdaaGreat.PTop Go.YW.PrintWords Go.YW.PrintLast Go.YW.PrintMore Go.Proofs.YtlalbohhopmpdaaGreat.Num
open Go.Proofs.YtlalbohhopmpdaaGreat.Ring (yT yt Fr2 Fr3 ZL vK)
attribute [local go_sem] zk zo
theorem Jm (w : World) (B N : Nat) (x : Ix) (g : Sg) (gb dk : Nat) (L : Nat → Nat → Nat) (h : zR w B N x g gb dk 0 L (fun _ => []) (fun _ => [])) (hgb : B ≤ gb) (hdk : B ≤ dk) :
    Calls Tryz.prog 30 #[.pointer (some ⟨gb, 0, none⟩)] w fun e w' => e = .returned (.agg #[.bool true, .int .i64 0, .slice none 0 0]) ∧ (∃ L', zR w' B N x g gb dk 1 L' (fun _ => []) (fun _ => [])) ∧ Ch TG (MS x) B w w' := by
  have hu98 := Tryz.underlying98
  have hu96 := Tryz.underlying96
  have hu95 := Tryz.underlying95
  have hu61 := Tryz.underlying61
  have hu30 := Tryz.underlying30
  obtain ⟨cs, m, gr, o, hk0, hg0, hcf⟩ := h.blk
  have B1 := hQ (show Below w.heap.size w (w.alloc (.cells #[.bool false, .int .i64 0, .slice none 0 0] 61)) from (Below.refl _ _).alloc (Nat.le_refl _) _)
  have X1 := hQ (zi w (.cells #[.bool false, .int .i64 0, .slice none 0 0] 61))
  have D1 := hQ (h.desk.below B1.out)
  have K1 := hQ (zb hk0 B1.out)
  have HG := hQ hg0
  have K0 := hQ hk0
  have HB := hQ h.slv.lt
  have H := hQ h
  have HCF := hQ hcf
  have HGB := hQ hgb
  have HDK := hQ hdk
  have C1 := hQ (show Ch [98, 128] [] B w (w.alloc (.cells #[.bool false, .int .i64 0, .slice none 0 0] 61)) from Ch.of_below B1.out HB.out (fun m hm => by cases hm))
  have HDW := hQ (zF h.desk.blk)
  have HGW := hQ (zF hk0)
  have c13 : (w.alloc (.cells #[.bool false, .int .i64 0, .slice none 0 0] 61)).cell? ⟨gb, 13, none⟩ = some (.pointer (some ⟨dk, 0, none⟩)) := (za K1.out 13).trans HG.out.dk
  have hne : dk ≠ gb := by
    rintro rfl
    have h1 := h.desk.blk
    rw [hk0] at h1
    simp at h1
  have HNE := hQ hne
  clear h hk0 hg0 hcf hgb hdk hne
  go_enter Tryz.func30, Tryz.ntmps30
  go_wp2_with (fail)
  refine (ZP _ dk 0 D1.out (by omega)).mono ?_
  rintro e w2 ⟨rfl, hd2, hw2⟩
  have D2 := hQ hd2
  have K2 := hQ (show w2.heap[gb]? = some (.cells cs 98 (0, 0)) by rw [hw2]; exact (Below.heap_setCell _ ⟨dk, _, none⟩ _ gb (fun e => HNE.out e.symm)).trans K1.out)
  have X2 := hQ (show w2.heap[w.heap.size]? = some (.cells #[.bool false, .int .i64 0, .slice none 0 0] 61 (0, 0)) by rw [hw2]; exact (Below.heap_setCell _ ⟨dk, _, none⟩ _ w.heap.size (fun e => by have := HDW.out; have e2 : w.heap.size = dk := e; omega)).trans X1.out)
  have C2 := hQ (show Ch [98, 128] [] B w w2 by rw [hw2]; exact C1.out.setOld H.out.desk.blk (by decide) HDK.out)
  have Z2 := hQ (show w2.heap.size = w.heap.size + 1 by rw [hw2]; simp [World.setCell])
  clear hd2 hw2 c13
  go_wp2_with (fail)
  have hbd : Below w2.heap.size w2 w2.drew := zl (Below.refl _ _)
  replace K2 := hQ (zb K2.out hbd)
  replace X2 := hQ (zb X2.out hbd)
  replace D2 := hQ (D2.out.below hbd)
  replace C2 := hQ (C2.out.thenBelow hbd HB.out)
  clear hbd
  refine sq_ (ds := [18]) #[false, false, false, false, false, false, false, false, false, false, false, false, false, false, false, false, false, false, false] (fun w' => w'.cell? ⟨gb, 9, none⟩ = some (.int .i64 1024) ∧ w'.cell? ⟨gb, 10, none⟩ = some (.int .i64 1024)) ⟨(yn K2.out HG.out).2.2.2.2.2.2.2.2.2.1, (yn K2.out HG.out).2.2.2.2.2.2.2.2.2.2.1⟩ (fun hHeld => ?_)
  refine pq_ 0 (some 14) ?_
  refine pq_ 1 (some 15) ?_
  refine pq_ 2 (some 16) ?_
  refine pq_ 3 (some 17) ?_
  refine pq_ 4 (some 18) ?_
  refine pq_ 5 (some 19) ?_
  refine pq_ 8 (some 22) ?_
  refine pq_ 9 (some 23) ?_
  refine pq_ 10 (some 24) ?_
  refine pq_ 11 (some 25) ?_
  refine pq_ 15 (some 29) ?_
  refine pq_ 16 (some 30) ?_
  refine tq_ 6 (some 20) hHeld ?_
  refine tq_ 12 (some 26) hHeld ?_
  refine oq_ 7 (some 21) (fun K hK => ?_)
  refine yh Tryz.func54 (by kernel_rfl) rfl #[.int .i64 1024] (by rfl) rfl rfl (by (try simp only [List.map_toArray, List.map_cons, List.map_nil]); first | done | rfl) ?_
  refine (ZL 1024 1024 (by decide) _).mono ?_
  rintro e w3 ⟨gf, g1, b1, rfl, hF, n0, n1, n2, hb⟩
  have K3 := hQ (zb K2.out hb)
  have D3 := hQ (D2.out.below hb)
  have X3 := hQ (zb X2.out hb)
  have C3 := hQ (C2.out.thenBelow hb HB.out)
  have F3 := hQ hF
  have N3 := hQ (And.intro n0 (And.intro n1 n2))
  clear hF n0 n1 n2 hb
  refine ⟨_, rfl, ?_⟩
  refine hK.out _ _ ⟨(yn K3.out HG.out).2.2.2.2.2.2.2.2.2.1, (yn K3.out HG.out).2.2.2.2.2.2.2.2.2.2.1⟩ (fun hHeld => ?_)
  clear hK K
  refine nq_ ?_
  refine oq_ 13 (some 27) (fun K hK => ?_)
  refine yh Tryz.func55 (by kernel_rfl) rfl #[.int .i64 1024] (by rfl) rfl rfl (by (try simp only [List.map_toArray, List.map_cons, List.map_nil]); first | done | rfl) ?_
  refine (vK 1024 _).mono ?_
  rintro e w4 ⟨g2, b2, rfl, hR, n3, n4, hb⟩
  have K4 := hQ (zb K3.out hb)
  have D4 := hQ (D3.out.below hb)
  have X4 := hQ (zb X3.out hb)
  have C4 := hQ (C3.out.thenBelow hb HB.out)
  have F4 := hQ (F3.out.below hb)
  have R4 := hQ (show yt w4 g2 b2 1024 [] from hR)
  have N4 := hQ (And.intro n3 n4)
  have S3 := hQ (And.intro (qi F3.out) True.intro)
  clear hR n3 n4 hb
  have q0 : w4.cell? ⟨gb, 15, none⟩ = some (cs[15]'(by have := HG.out.size; omega)) := (za K4.out 15).trans (Array.getElem?_eq_getElem (by have := HG.out.size; omega))
  have q1 : w4.cell? ⟨gb, 16, none⟩ = some (cs[16]'(by have := HG.out.size; omega)) := (za K4.out 16).trans (Array.getElem?_eq_getElem (by have := HG.out.size; omega))
  have fq : ∀ i, w4.frozen? ⟨gb, i, none⟩ = false := fun i => zh K4.out i
  refine ⟨_, rfl, ?_⟩
  refine hK.out _ _ ⟨(yn K4.out HG.out).2.2.2.2.2.2.2.2.2.1, (yn K4.out HG.out).2.2.2.2.2.2.2.2.2.2.1⟩ (fun hHeld => ?_)
  clear hK K
  refine nq_ ?_
  refine pq_ 14 (some 28) ?_
  refine pq_ 17 (some 31) ?_
  refine kE (i := 18) (N := none) #[true, true, true, true, true, true, true, true, true, true, true, true, true, true, true, true, true, true, true] rfl rfl (by kernel_rfl) (by decide) (fun K hK => ?_)
  refine jY (w1 := ?_) (by rfl) rfl ?_ ?_
  rotate_left
  · go_simp
    rfl
  refine hK.out _ _ ?_
  clear hK K
  refine xJ (by kernel_rfl) ?_

  have n3 := N3.out
  have n4 := N4.out
  have z2 := Z2.out
  have hgw := HGW.out
  have hdw := HDW.out
  obtain ⟨⟨⟨_, _, s0⟩, ⟨_, _, s1⟩, ⟨_, _, s2⟩⟩, _⟩ := S3.out
  have l0 := zF s0
  have l1 := zF s1
  have l2 := zF s2
  have n3' : w.heap.size + 1 ≤ gf ∧ w.heap.size + 1 ≤ g1 ∧ w.heap.size + 1 ≤ b1 := by rw [← z2]; exact n3
  have z3 : w.heap.size + 1 ≤ w3.heap.size := by omega
  have K5 := hQ (blk_set (i := 16) (v := .pointer (some ⟨g2, 0, none⟩)) (blk_set (i := 15) (v := .pointer (some ⟨gf, 0, none⟩)) K4.out))
  have C5 := hQ ((C4.out.setOld (j := 15) (v := .pointer (some ⟨gf, 0, none⟩)) K0.out (by decide) HGB.out).setOld (j := 16) (v := .pointer (some ⟨g2, 0, none⟩)) K0.out (by decide) HGB.out)
  have F5 := hQ ((F4.out.far (i := 15) (v := .pointer (some ⟨gf, 0, none⟩)) (show gf ≠ gb by omega) (show g1 ≠ gb by omega) (show b1 ≠ gb by omega)).far (i := 16) (v := .pointer (some ⟨g2, 0, none⟩)) (show gf ≠ gb by omega) (show g1 ≠ gb by omega) (show b1 ≠ gb by omega))
  have R5 := hQ (yt.farS (j := 16) (v := .pointer (some ⟨g2, 0, none⟩)) (yt.farS (j := 15) (v := .pointer (some ⟨gf, 0, none⟩)) R4.out (show g2 ≠ gb by omega) (show b2 ≠ gb by omega)) (show g2 ≠ gb by omega) (show b2 ≠ gb by omega))
  have D5 := hQ (show kL ((w4.setCell ⟨gb, 15, none⟩ (.pointer (some ⟨gf, 0, none⟩))).setCell ⟨gb, 16, none⟩ (.pointer (some ⟨g2, 0, none⟩))) dk 1 from ⟨(Below.heap_setCell _ ⟨gb, 16, none⟩ _ dk HNE.out).trans ((Below.heap_setCell _ ⟨gb, 15, none⟩ _ dk HNE.out).trans D4.out.blk), by omega⟩)
  have X5 := hQ (show ((w4.setCell ⟨gb, 15, none⟩ (.pointer (some ⟨gf, 0, none⟩))).setCell ⟨gb, 16, none⟩ (.pointer (some ⟨g2, 0, none⟩))).heap[w.heap.size]? = some (.cells #[.bool false, .int .i64 0, .slice none 0 0] 61 (0, 0)) from (Below.heap_setCell _ ⟨gb, 16, none⟩ _ w.heap.size (show w.heap.size ≠ gb by omega)).trans ((Below.heap_setCell _ ⟨gb, 15, none⟩ _ w.heap.size (show w.heap.size ≠ gb by omega)).trans X4.out))
  have G5 := zR.add H.out C5.out K5.out (GCs.add HG.out (by omega) gf g1 b1 g2 b2) HCF.out D5.out F5.out R5.out ⟨by omega, by omega, by omega, by omega, by omega⟩ hgw hdw ⟨by omega, by omega, by omega, by omega, by omega, by omega⟩
  have L5 : xx B N x g gb dk 1 (jU L 0 gf g1 b1 g2 b2) (fun _ => []) (fun _ => []) w _ w.heap.size w.heap.size := ⟨G5, C5.out.mono (by decide) (fun m hm => by cases hm) H.out.slv.isMap, HB.out, ⟨_, _, _, X5.out, by decide⟩, ⟨_, _, _, X5.out, by decide⟩, Nat.le_refl _, Nat.le_refl _⟩
  have HL := hQ L5
  clear G5 L5 K5 C5 F5 R5 D5 K4 D4 C4 F4 R4 X4 n3 n4 z2 hgw hdw s0 s1 s2 l0 l1 l2 n3' z3 q0 q1 fq hHeld
  generalize hW5 : (w4.setCell ⟨gb, 15, none⟩ (.pointer (some ⟨gf, 0, none⟩))).setCell ⟨gb, 16, none⟩ (.pointer (some ⟨g2, 0, none⟩)) = w5 at *
  clear hW5
  obtain ⟨y0, y1, y2⟩ := kV X5.out
  have fy : ∀ i, w5.frozen? ⟨w.heap.size, i, none⟩ = false := fun i => zh X5.out i
  go_wp2
  refine bodyPost_ret (v := .agg #[.bool true, .int .i64 0, .slice none 0 0]) ?_ rfl ⟨rfl, ?_⟩
  · simp [results, Tryz.results30, go_sem, hu61, y0, y1, y2]
  · have hfin : ∀ W : World, xx B N x g gb dk 1 (jU L 0 gf g1 b1 g2 b2) (fun _ => []) (fun _ => []) w W w.heap.size w.heap.size → (∃ L', zR W B N x g gb dk 1 L' (fun _ => []) (fun _ => [])) ∧ Ch TG (MS x) B w W := fun W hW => ⟨⟨_, hW.gt⟩, hW.ch⟩
    refine hfin _ ?_
    repeat (with_reducible first | exact HL.out | (refine xx.set ?_ (Or.inl rfl)))
theorem QZ (w : World) (B N : Nat) (x : Ix) (g : Sg) (gb dk : Nat) (L : Nat → Nat → Nat) (h : zR w B N x g gb dk 1 L (fun _ => []) (fun _ => [])) (hgb : B ≤ gb) (hdk : B ≤ dk) :
    Calls Tryz.prog 30 #[.pointer (some ⟨gb, 0, none⟩)] w fun e w' => e = .returned (.agg #[.bool true, .int .i64 1, .slice none 0 0]) ∧ (∃ L', zR w' B N x g gb dk 2 L' (fun _ => []) (fun _ => [])) ∧ Ch TG (MS x) B w w' := by
  have hu98 := Tryz.underlying98
  have hu96 := Tryz.underlying96
  have hu95 := Tryz.underlying95
  have hu61 := Tryz.underlying61
  have hu30 := Tryz.underlying30
  obtain ⟨cs, m, gr, o, hk0, hg0, hcf⟩ := h.blk
  have B1 := hQ (show Below w.heap.size w (w.alloc (.cells #[.bool false, .int .i64 0, .slice none 0 0] 61)) from (Below.refl _ _).alloc (Nat.le_refl _) _)
  have X1 := hQ (zi w (.cells #[.bool false, .int .i64 0, .slice none 0 0] 61))
  have D1 := hQ (h.desk.below B1.out)
  have K1 := hQ (zb hk0 B1.out)
  have HG := hQ hg0
  have K0 := hQ hk0
  have HB := hQ h.slv.lt
  have H := hQ h
  have HCF := hQ hcf
  have HGB := hQ hgb
  have HDK := hQ hdk
  have C1 := hQ (show Ch [98, 128] [] B w (w.alloc (.cells #[.bool false, .int .i64 0, .slice none 0 0] 61)) from Ch.of_below B1.out HB.out (fun m hm => by cases hm))
  have HDW := hQ (zF h.desk.blk)
  have HGW := hQ (zF hk0)
  have c13 : (w.alloc (.cells #[.bool false, .int .i64 0, .slice none 0 0] 61)).cell? ⟨gb, 13, none⟩ = some (.pointer (some ⟨dk, 0, none⟩)) := (za K1.out 13).trans HG.out.dk
  have hne : dk ≠ gb := by
    rintro rfl
    have h1 := h.desk.blk
    rw [hk0] at h1
    simp at h1
  have HNE := hQ hne
  clear h hk0 hg0 hcf hgb hdk hne
  go_enter Tryz.func30, Tryz.ntmps30
  go_wp2_with (fail)
  refine (ZP _ dk 1 D1.out (by omega)).mono ?_
  rintro e w2 ⟨rfl, hd2, hw2⟩
  have D2 := hQ hd2
  have K2 := hQ (show w2.heap[gb]? = some (.cells cs 98 (0, 0)) by rw [hw2]; exact (Below.heap_setCell _ ⟨dk, _, none⟩ _ gb (fun e => HNE.out e.symm)).trans K1.out)
  have X2 := hQ (show w2.heap[w.heap.size]? = some (.cells #[.bool false, .int .i64 0, .slice none 0 0] 61 (0, 0)) by rw [hw2]; exact (Below.heap_setCell _ ⟨dk, _, none⟩ _ w.heap.size (fun e => by have := HDW.out; have e2 : w.heap.size = dk := e; omega)).trans X1.out)
  have C2 := hQ (show Ch [98, 128] [] B w w2 by rw [hw2]; exact C1.out.setOld H.out.desk.blk (by decide) HDK.out)
  have Z2 := hQ (show w2.heap.size = w.heap.size + 1 by rw [hw2]; simp [World.setCell])
  clear hd2 hw2 c13
  go_wp2_with (fail)
  have hbd : Below w2.heap.size w2 w2.drew := zl (Below.refl _ _)
  replace K2 := hQ (zb K2.out hbd)
  replace X2 := hQ (zb X2.out hbd)
  replace D2 := hQ (D2.out.below hbd)
  replace C2 := hQ (C2.out.thenBelow hbd HB.out)
  clear hbd
  refine sq_ (ds := [18]) #[false, false, false, false, false, false, false, false, false, false, false, false, false, false, false, false, false, false, false] (fun w' => w'.cell? ⟨gb, 9, none⟩ = some (.int .i64 1024) ∧ w'.cell? ⟨gb, 10, none⟩ = some (.int .i64 1024)) ⟨(yn K2.out HG.out).2.2.2.2.2.2.2.2.2.1, (yn K2.out HG.out).2.2.2.2.2.2.2.2.2.2.1⟩ (fun hHeld => ?_)
  refine pq_ 0 (some 14) ?_
  refine pq_ 1 (some 15) ?_
  refine pq_ 2 (some 16) ?_
  refine pq_ 3 (some 17) ?_
  refine pq_ 4 (some 18) ?_
  refine pq_ 5 (some 19) ?_
  refine pq_ 8 (some 22) ?_
  refine pq_ 9 (some 23) ?_
  refine pq_ 10 (some 24) ?_
  refine pq_ 11 (some 25) ?_
  refine pq_ 15 (some 29) ?_
  refine pq_ 16 (some 30) ?_
  refine tq_ 6 (some 20) hHeld ?_
  refine tq_ 12 (some 26) hHeld ?_
  refine oq_ 7 (some 21) (fun K hK => ?_)
  refine yh Tryz.func54 (by kernel_rfl) rfl #[.int .i64 1024] (by rfl) rfl rfl (by (try simp only [List.map_toArray, List.map_cons, List.map_nil]); first | done | rfl) ?_
  refine (ZL 1024 1024 (by decide) _).mono ?_
  rintro e w3 ⟨gf, g1, b1, rfl, hF, n0, n1, n2, hb⟩
  have K3 := hQ (zb K2.out hb)
  have D3 := hQ (D2.out.below hb)
  have X3 := hQ (zb X2.out hb)
  have C3 := hQ (C2.out.thenBelow hb HB.out)
  have F3 := hQ hF
  have N3 := hQ (And.intro n0 (And.intro n1 n2))
  clear hF n0 n1 n2 hb
  refine ⟨_, rfl, ?_⟩
  refine hK.out _ _ ⟨(yn K3.out HG.out).2.2.2.2.2.2.2.2.2.1, (yn K3.out HG.out).2.2.2.2.2.2.2.2.2.2.1⟩ (fun hHeld => ?_)
  clear hK K
  refine nq_ ?_
  refine oq_ 13 (some 27) (fun K hK => ?_)
  refine yh Tryz.func55 (by kernel_rfl) rfl #[.int .i64 1024] (by rfl) rfl rfl (by (try simp only [List.map_toArray, List.map_cons, List.map_nil]); first | done | rfl) ?_
  refine (vK 1024 _).mono ?_
  rintro e w4 ⟨g2, b2, rfl, hR, n3, n4, hb⟩
  have K4 := hQ (zb K3.out hb)
  have D4 := hQ (D3.out.below hb)
  have X4 := hQ (zb X3.out hb)
  have C4 := hQ (C3.out.thenBelow hb HB.out)
  have F4 := hQ (F3.out.below hb)
  have R4 := hQ (show yt w4 g2 b2 1024 [] from hR)
  have N4 := hQ (And.intro n3 n4)
  have S3 := hQ (And.intro (qi F3.out) True.intro)
  clear hR n3 n4 hb
  have q0 : w4.cell? ⟨gb, 17, none⟩ = some (cs[17]'(by have := HG.out.size; omega)) := (za K4.out 17).trans (Array.getElem?_eq_getElem (by have := HG.out.size; omega))
  have q1 : w4.cell? ⟨gb, 18, none⟩ = some (cs[18]'(by have := HG.out.size; omega)) := (za K4.out 18).trans (Array.getElem?_eq_getElem (by have := HG.out.size; omega))
  have fq : ∀ i, w4.frozen? ⟨gb, i, none⟩ = false := fun i => zh K4.out i
  refine ⟨_, rfl, ?_⟩
  refine hK.out _ _ ⟨(yn K4.out HG.out).2.2.2.2.2.2.2.2.2.1, (yn K4.out HG.out).2.2.2.2.2.2.2.2.2.2.1⟩ (fun hHeld => ?_)
  clear hK K
  refine nq_ ?_
  refine pq_ 14 (some 28) ?_
  refine pq_ 17 (some 31) ?_
  refine kE (i := 18) (N := none) #[true, true, true, true, true, true, true, true, true, true, true, true, true, true, true, true, true, true, true] rfl rfl (by kernel_rfl) (by decide) (fun K hK => ?_)
  refine jY (w1 := ?_) (by rfl) rfl ?_ ?_
  rotate_left
  · go_simp
    rfl
  refine hK.out _ _ ?_
  clear hK K
  refine xJ (by kernel_rfl) ?_

  have n3 := N3.out
  have n4 := N4.out
  have z2 := Z2.out
  have hgw := HGW.out
  have hdw := HDW.out
  obtain ⟨⟨⟨_, _, s0⟩, ⟨_, _, s1⟩, ⟨_, _, s2⟩⟩, _⟩ := S3.out
  have l0 := zF s0
  have l1 := zF s1
  have l2 := zF s2
  have n3' : w.heap.size + 1 ≤ gf ∧ w.heap.size + 1 ≤ g1 ∧ w.heap.size + 1 ≤ b1 := by rw [← z2]; exact n3
  have z3 : w.heap.size + 1 ≤ w3.heap.size := by omega
  have K5 := hQ (blk_set (i := 18) (v := .pointer (some ⟨g2, 0, none⟩)) (blk_set (i := 17) (v := .pointer (some ⟨gf, 0, none⟩)) K4.out))
  have C5 := hQ ((C4.out.setOld (j := 17) (v := .pointer (some ⟨gf, 0, none⟩)) K0.out (by decide) HGB.out).setOld (j := 18) (v := .pointer (some ⟨g2, 0, none⟩)) K0.out (by decide) HGB.out)
  have F5 := hQ ((F4.out.far (i := 17) (v := .pointer (some ⟨gf, 0, none⟩)) (show gf ≠ gb by omega) (show g1 ≠ gb by omega) (show b1 ≠ gb by omega)).far (i := 18) (v := .pointer (some ⟨g2, 0, none⟩)) (show gf ≠ gb by omega) (show g1 ≠ gb by omega) (show b1 ≠ gb by omega))
  have R5 := hQ (yt.farS (j := 18) (v := .pointer (some ⟨g2, 0, none⟩)) (yt.farS (j := 17) (v := .pointer (some ⟨gf, 0, none⟩)) R4.out (show g2 ≠ gb by omega) (show b2 ≠ gb by omega)) (show g2 ≠ gb by omega) (show b2 ≠ gb by omega))
  have D5 := hQ (show kL ((w4.setCell ⟨gb, 17, none⟩ (.pointer (some ⟨gf, 0, none⟩))).setCell ⟨gb, 18, none⟩ (.pointer (some ⟨g2, 0, none⟩))) dk 2 from ⟨(Below.heap_setCell _ ⟨gb, 18, none⟩ _ dk HNE.out).trans ((Below.heap_setCell _ ⟨gb, 17, none⟩ _ dk HNE.out).trans D4.out.blk), by omega⟩)
  have X5 := hQ (show ((w4.setCell ⟨gb, 17, none⟩ (.pointer (some ⟨gf, 0, none⟩))).setCell ⟨gb, 18, none⟩ (.pointer (some ⟨g2, 0, none⟩))).heap[w.heap.size]? = some (.cells #[.bool false, .int .i64 0, .slice none 0 0] 61 (0, 0)) from (Below.heap_setCell _ ⟨gb, 18, none⟩ _ w.heap.size (show w.heap.size ≠ gb by omega)).trans ((Below.heap_setCell _ ⟨gb, 17, none⟩ _ w.heap.size (show w.heap.size ≠ gb by omega)).trans X4.out))
  have G5 := zR.add H.out C5.out K5.out (GCs.add HG.out (by omega) gf g1 b1 g2 b2) HCF.out D5.out F5.out R5.out ⟨by omega, by omega, by omega, by omega, by omega⟩ hgw hdw ⟨by omega, by omega, by omega, by omega, by omega, by omega⟩
  have L5 : xx B N x g gb dk 2 (jU L 1 gf g1 b1 g2 b2) (fun _ => []) (fun _ => []) w _ w.heap.size w.heap.size := ⟨G5, C5.out.mono (by decide) (fun m hm => by cases hm) H.out.slv.isMap, HB.out, ⟨_, _, _, X5.out, by decide⟩, ⟨_, _, _, X5.out, by decide⟩, Nat.le_refl _, Nat.le_refl _⟩
  have HL := hQ L5
  clear G5 L5 K5 C5 F5 R5 D5 K4 D4 C4 F4 R4 X4 n3 n4 z2 hgw hdw s0 s1 s2 l0 l1 l2 n3' z3 q0 q1 fq hHeld
  generalize hW5 : (w4.setCell ⟨gb, 17, none⟩ (.pointer (some ⟨gf, 0, none⟩))).setCell ⟨gb, 18, none⟩ (.pointer (some ⟨g2, 0, none⟩)) = w5 at *
  clear hW5
  obtain ⟨y0, y1, y2⟩ := kV X5.out
  have fy : ∀ i, w5.frozen? ⟨w.heap.size, i, none⟩ = false := fun i => zh X5.out i
  go_wp2
  refine bodyPost_ret (v := .agg #[.bool true, .int .i64 1, .slice none 0 0]) ?_ rfl ⟨rfl, ?_⟩
  · simp [results, Tryz.results30, go_sem, hu61, y0, y1, y2]
  · have hfin : ∀ W : World, xx B N x g gb dk 2 (jU L 1 gf g1 b1 g2 b2) (fun _ => []) (fun _ => []) w W w.heap.size w.heap.size → (∃ L', zR W B N x g gb dk 2 L' (fun _ => []) (fun _ => [])) ∧ Ch TG (MS x) B w W := fun W hW => ⟨⟨_, hW.gt⟩, hW.ch⟩
    refine hfin _ ?_
    repeat (with_reducible first | exact HL.out | (refine xx.set ?_ (Or.inl rfl)))
theorem Jk (w : World) (B N : Nat) (x : Ix) (g : Sg) (gb dk : Nat) (L : Nat → Nat → Nat) (h : zR w B N x g gb dk 2 L (fun _ => []) (fun _ => [])) (hgb : B ≤ gb) (hdk : B ≤ dk) :
    Calls Tryz.prog 30 #[.pointer (some ⟨gb, 0, none⟩)] w fun e w' => e = .returned (.agg #[.bool true, .int .i64 2, .slice none 0 0]) ∧ (∃ L', zR w' B N x g gb dk 3 L' (fun _ => []) (fun _ => [])) ∧ Ch TG (MS x) B w w' := by
  have hu98 := Tryz.underlying98
  have hu96 := Tryz.underlying96
  have hu95 := Tryz.underlying95
  have hu61 := Tryz.underlying61
  have hu30 := Tryz.underlying30
  obtain ⟨cs, m, gr, o, hk0, hg0, hcf⟩ := h.blk
  have B1 := hQ (show Below w.heap.size w (w.alloc (.cells #[.bool false, .int .i64 0, .slice none 0 0] 61)) from (Below.refl _ _).alloc (Nat.le_refl _) _)
  have X1 := hQ (zi w (.cells #[.bool false, .int .i64 0, .slice none 0 0] 61))
  have D1 := hQ (h.desk.below B1.out)
  have K1 := hQ (zb hk0 B1.out)
  have HG := hQ hg0
  have K0 := hQ hk0
  have HB := hQ h.slv.lt
  have H := hQ h
  have HCF := hQ hcf
  have HGB := hQ hgb
  have HDK := hQ hdk
  have C1 := hQ (show Ch [98, 128] [] B w (w.alloc (.cells #[.bool false, .int .i64 0, .slice none 0 0] 61)) from Ch.of_below B1.out HB.out (fun m hm => by cases hm))
  have HDW := hQ (zF h.desk.blk)
  have HGW := hQ (zF hk0)
  have c13 : (w.alloc (.cells #[.bool false, .int .i64 0, .slice none 0 0] 61)).cell? ⟨gb, 13, none⟩ = some (.pointer (some ⟨dk, 0, none⟩)) := (za K1.out 13).trans HG.out.dk
  have hne : dk ≠ gb := by
    rintro rfl
    have h1 := h.desk.blk
    rw [hk0] at h1
    simp at h1
  have HNE := hQ hne
  clear h hk0 hg0 hcf hgb hdk hne
  go_enter Tryz.func30, Tryz.ntmps30
  go_wp2_with (fail)
  refine (ZP _ dk 2 D1.out (by omega)).mono ?_
  rintro e w2 ⟨rfl, hd2, hw2⟩
  have D2 := hQ hd2
  have K2 := hQ (show w2.heap[gb]? = some (.cells cs 98 (0, 0)) by rw [hw2]; exact (Below.heap_setCell _ ⟨dk, _, none⟩ _ gb (fun e => HNE.out e.symm)).trans K1.out)
  have X2 := hQ (show w2.heap[w.heap.size]? = some (.cells #[.bool false, .int .i64 0, .slice none 0 0] 61 (0, 0)) by rw [hw2]; exact (Below.heap_setCell _ ⟨dk, _, none⟩ _ w.heap.size (fun e => by have := HDW.out; have e2 : w.heap.size = dk := e; omega)).trans X1.out)
  have C2 := hQ (show Ch [98, 128] [] B w w2 by rw [hw2]; exact C1.out.setOld H.out.desk.blk (by decide) HDK.out)
  have Z2 := hQ (show w2.heap.size = w.heap.size + 1 by rw [hw2]; simp [World.setCell])
  clear hd2 hw2 c13
  go_wp2_with (fail)
  have hbd : Below w2.heap.size w2 w2.drew := zl (Below.refl _ _)
  replace K2 := hQ (zb K2.out hbd)
  replace X2 := hQ (zb X2.out hbd)
  replace D2 := hQ (D2.out.below hbd)
  replace C2 := hQ (C2.out.thenBelow hbd HB.out)
  clear hbd
  refine sq_ (ds := [18]) #[false, false, false, false, false, false, false, false, false, false, false, false, false, false, false, false, false, false, false] (fun w' => w'.cell? ⟨gb, 9, none⟩ = some (.int .i64 1024) ∧ w'.cell? ⟨gb, 10, none⟩ = some (.int .i64 1024)) ⟨(yn K2.out HG.out).2.2.2.2.2.2.2.2.2.1, (yn K2.out HG.out).2.2.2.2.2.2.2.2.2.2.1⟩ (fun hHeld => ?_)
  refine pq_ 0 (some 14) ?_
  refine pq_ 1 (some 15) ?_
  refine pq_ 2 (some 16) ?_
  refine pq_ 3 (some 17) ?_
  refine pq_ 4 (some 18) ?_
  refine pq_ 5 (some 19) ?_
  refine pq_ 8 (some 22) ?_
  refine pq_ 9 (some 23) ?_
  refine pq_ 10 (some 24) ?_
  refine pq_ 11 (some 25) ?_
  refine pq_ 15 (some 29) ?_
  refine pq_ 16 (some 30) ?_
  refine tq_ 6 (some 20) hHeld ?_
  refine tq_ 12 (some 26) hHeld ?_
  refine oq_ 7 (some 21) (fun K hK => ?_)
  refine yh Tryz.func54 (by kernel_rfl) rfl #[.int .i64 1024] (by rfl) rfl rfl (by (try simp only [List.map_toArray, List.map_cons, List.map_nil]); first | done | rfl) ?_
  refine (ZL 1024 1024 (by decide) _).mono ?_
  rintro e w3 ⟨gf, g1, b1, rfl, hF, n0, n1, n2, hb⟩
  have K3 := hQ (zb K2.out hb)
  have D3 := hQ (D2.out.below hb)
  have X3 := hQ (zb X2.out hb)
  have C3 := hQ (C2.out.thenBelow hb HB.out)
  have F3 := hQ hF
  have N3 := hQ (And.intro n0 (And.intro n1 n2))
  clear hF n0 n1 n2 hb
  refine ⟨_, rfl, ?_⟩
  refine hK.out _ _ ⟨(yn K3.out HG.out).2.2.2.2.2.2.2.2.2.1, (yn K3.out HG.out).2.2.2.2.2.2.2.2.2.2.1⟩ (fun hHeld => ?_)
  clear hK K
  refine nq_ ?_
  refine oq_ 13 (some 27) (fun K hK => ?_)
  refine yh Tryz.func55 (by kernel_rfl) rfl #[.int .i64 1024] (by rfl) rfl rfl (by (try simp only [List.map_toArray, List.map_cons, List.map_nil]); first | done | rfl) ?_
  refine (vK 1024 _).mono ?_
  rintro e w4 ⟨g2, b2, rfl, hR, n3, n4, hb⟩
  have K4 := hQ (zb K3.out hb)
  have D4 := hQ (D3.out.below hb)
  have X4 := hQ (zb X3.out hb)
  have C4 := hQ (C3.out.thenBelow hb HB.out)
  have F4 := hQ (F3.out.below hb)
  have R4 := hQ (show yt w4 g2 b2 1024 [] from hR)
  have N4 := hQ (And.intro n3 n4)
  have S3 := hQ (And.intro (qi F3.out) True.intro)
  clear hR n3 n4 hb
  have q0 : w4.cell? ⟨gb, 19, none⟩ = some (cs[19]'(by have := HG.out.size; omega)) := (za K4.out 19).trans (Array.getElem?_eq_getElem (by have := HG.out.size; omega))
  have q1 : w4.cell? ⟨gb, 20, none⟩ = some (cs[20]'(by have := HG.out.size; omega)) := (za K4.out 20).trans (Array.getElem?_eq_getElem (by have := HG.out.size; omega))
  have fq : ∀ i, w4.frozen? ⟨gb, i, none⟩ = false := fun i => zh K4.out i
  refine ⟨_, rfl, ?_⟩
  refine hK.out _ _ ⟨(yn K4.out HG.out).2.2.2.2.2.2.2.2.2.1, (yn K4.out HG.out).2.2.2.2.2.2.2.2.2.2.1⟩ (fun hHeld => ?_)
  clear hK K
  refine nq_ ?_
  refine pq_ 14 (some 28) ?_
  refine pq_ 17 (some 31) ?_
  refine kE (i := 18) (N := none) #[true, true, true, true, true, true, true, true, true, true, true, true, true, true, true, true, true, true, true] rfl rfl (by kernel_rfl) (by decide) (fun K hK => ?_)
  refine jY (w1 := ?_) (by rfl) rfl ?_ ?_
  rotate_left
  · go_simp
    rfl
  refine hK.out _ _ ?_
  clear hK K
  refine xJ (by kernel_rfl) ?_

  have n3 := N3.out
  have n4 := N4.out
  have z2 := Z2.out
  have hgw := HGW.out
  have hdw := HDW.out
  obtain ⟨⟨⟨_, _, s0⟩, ⟨_, _, s1⟩, ⟨_, _, s2⟩⟩, _⟩ := S3.out
  have l0 := zF s0
  have l1 := zF s1
  have l2 := zF s2
  have n3' : w.heap.size + 1 ≤ gf ∧ w.heap.size + 1 ≤ g1 ∧ w.heap.size + 1 ≤ b1 := by rw [← z2]; exact n3
  have z3 : w.heap.size + 1 ≤ w3.heap.size := by omega
  have K5 := hQ (blk_set (i := 20) (v := .pointer (some ⟨g2, 0, none⟩)) (blk_set (i := 19) (v := .pointer (some ⟨gf, 0, none⟩)) K4.out))
  have C5 := hQ ((C4.out.setOld (j := 19) (v := .pointer (some ⟨gf, 0, none⟩)) K0.out (by decide) HGB.out).setOld (j := 20) (v := .pointer (some ⟨g2, 0, none⟩)) K0.out (by decide) HGB.out)
  have F5 := hQ ((F4.out.far (i := 19) (v := .pointer (some ⟨gf, 0, none⟩)) (show gf ≠ gb by omega) (show g1 ≠ gb by omega) (show b1 ≠ gb by omega)).far (i := 20) (v := .pointer (some ⟨g2, 0, none⟩)) (show gf ≠ gb by omega) (show g1 ≠ gb by omega) (show b1 ≠ gb by omega))
  have R5 := hQ (yt.farS (j := 20) (v := .pointer (some ⟨g2, 0, none⟩)) (yt.farS (j := 19) (v := .pointer (some ⟨gf, 0, none⟩)) R4.out (show g2 ≠ gb by omega) (show b2 ≠ gb by omega)) (show g2 ≠ gb by omega) (show b2 ≠ gb by omega))
  have D5 := hQ (show kL ((w4.setCell ⟨gb, 19, none⟩ (.pointer (some ⟨gf, 0, none⟩))).setCell ⟨gb, 20, none⟩ (.pointer (some ⟨g2, 0, none⟩))) dk 3 from ⟨(Below.heap_setCell _ ⟨gb, 20, none⟩ _ dk HNE.out).trans ((Below.heap_setCell _ ⟨gb, 19, none⟩ _ dk HNE.out).trans D4.out.blk), by omega⟩)
  have X5 := hQ (show ((w4.setCell ⟨gb, 19, none⟩ (.pointer (some ⟨gf, 0, none⟩))).setCell ⟨gb, 20, none⟩ (.pointer (some ⟨g2, 0, none⟩))).heap[w.heap.size]? = some (.cells #[.bool false, .int .i64 0, .slice none 0 0] 61 (0, 0)) from (Below.heap_setCell _ ⟨gb, 20, none⟩ _ w.heap.size (show w.heap.size ≠ gb by omega)).trans ((Below.heap_setCell _ ⟨gb, 19, none⟩ _ w.heap.size (show w.heap.size ≠ gb by omega)).trans X4.out))
  have G5 := zR.add H.out C5.out K5.out (GCs.add HG.out (by omega) gf g1 b1 g2 b2) HCF.out D5.out F5.out R5.out ⟨by omega, by omega, by omega, by omega, by omega⟩ hgw hdw ⟨by omega, by omega, by omega, by omega, by omega, by omega⟩
  have L5 : xx B N x g gb dk 3 (jU L 2 gf g1 b1 g2 b2) (fun _ => []) (fun _ => []) w _ w.heap.size w.heap.size := ⟨G5, C5.out.mono (by decide) (fun m hm => by cases hm) H.out.slv.isMap, HB.out, ⟨_, _, _, X5.out, by decide⟩, ⟨_, _, _, X5.out, by decide⟩, Nat.le_refl _, Nat.le_refl _⟩
  have HL := hQ L5
  clear G5 L5 K5 C5 F5 R5 D5 K4 D4 C4 F4 R4 X4 n3 n4 z2 hgw hdw s0 s1 s2 l0 l1 l2 n3' z3 q0 q1 fq hHeld
  generalize hW5 : (w4.setCell ⟨gb, 19, none⟩ (.pointer (some ⟨gf, 0, none⟩))).setCell ⟨gb, 20, none⟩ (.pointer (some ⟨g2, 0, none⟩)) = w5 at *
  clear hW5
  obtain ⟨y0, y1, y2⟩ := kV X5.out
  have fy : ∀ i, w5.frozen? ⟨w.heap.size, i, none⟩ = false := fun i => zh X5.out i
  go_wp2
  refine bodyPost_ret (v := .agg #[.bool true, .int .i64 2, .slice none 0 0]) ?_ rfl ⟨rfl, ?_⟩
  · simp [results, Tryz.results30, go_sem, hu61, y0, y1, y2]
  · have hfin : ∀ W : World, xx B N x g gb dk 3 (jU L 2 gf g1 b1 g2 b2) (fun _ => []) (fun _ => []) w W w.heap.size w.heap.size → (∃ L', zR W B N x g gb dk 3 L' (fun _ => []) (fun _ => [])) ∧ Ch TG (MS x) B w W := fun W hW => ⟨⟨_, hW.gt⟩, hW.ch⟩
    refine hfin _ ?_
    repeat (with_reducible first | exact HL.out | (refine xx.set ?_ (Or.inl rfl)))
end Go.Proofs.YtlalbohhopmpdaaGreat.Top
