/- Words and walks for TopBlind (made of the session's own texts; each part by itself). -/
import Derived.Deep.DeepCutAuto
import Derived.Deep.DeepMust
import Derived.Deep.RegionLaw
import Derived.LoopN
import Derived.WalkMore
import Derived.Test.YtlalbohhopmpdaaGreatZTopBlind14
import Derived.Test.YtlalbohhopmpdaaGreatZTopBlind23
set_option maxRecDepth 100000
set_option maxHeartbeats 8000000
set_option linter.unusedVariables false
set_option linter.unusedSimpArgs false
namespace Go.Proofs.YtlalbohhopmpdaaGreat.Top
open Go.RowKit Go.Proofs.YtlalbohhopmpdaaGreat.PTop Go.YW.PrintWords Go.YW.PrintLast Go.YW.PrintMore Go.Proofs.YtlalbohhopmpdaaGreat.Num
attribute [local go_sem] zk zo
theorem WK (w : World) (B N st mst : Nat) (s : SS) (h : xg w B N st mst s) (hs : kG s.ch) (A : Option Addr) (c B3 : Nat) (t a q : Int) (hl : Kd.R k78 78 w B3 (fun _ => True) (.slice A 1 c) [⟨t, a, a + 1⟩]) (ht : 0 ≤ t ∧ t < 4) (ha : 0 ≤ a ∧ a < 65536) :
    Calls Tryz.prog 250 #[.pointer (some ⟨st, 0, none⟩), .slice A 1 c, .int .u64 q] w fun e w' => ∃ k0 k1, e = .returned (.tuple #[.agg #[.int .i64 k0, .int .i64 k1], .bool (decide (q < newest (s.ch (t, a))))]) ∧ Below w.heap.size w w' := by
  have hu78 := Tryz.underlying78
  have hu158 := Tryz.underlying158
  have hu25 := Tryz.underlying25
  obtain ⟨g0, cap0, e0, _, _, _⟩ := Kd.qm hl (by simp)
  obtain ⟨rfl, rfl⟩ : A = some ⟨g0, 0, none⟩ ∧ c = cap0 := by injection e0 with h1 h2 h3; exact ⟨h1, h3⟩
  obtain ⟨W0, hW0⟩ : ∃ W0, W0 = (w.alloc (.cells #[.int .i64 0, .int .i64 0] 158)).alloc (.cells #[.int .i64 0, .int .i64 0] 158) := ⟨_, rfl⟩
  have B0 := hQ (show Below w.heap.size w W0 by rw [hW0]; exact ((Below.refl _ _).alloc (Nat.le_refl _) _).alloc (by simp) _)
  have X0 := hQ (show W0.heap[w.heap.size]? = some (.cells #[.int .i64 0, .int .i64 0] 158 (0, 0)) by rw [hW0]; exact zg (zi w _) _)
  have Y0 := hQ (show W0.heap[w.heap.size + 1]? = some (.cells #[.int .i64 0, .int .i64 0] 158 (0, 0)) by rw [hW0]; have h := zi (w.alloc (.cells #[.int .i64 0, .int .i64 0] 158)) (.cells #[.int .i64 0, .int .i64 0] 158); rw [show (w.alloc (.cells #[.int .i64 0, .int .i64 0] 158)).heap.size = w.heap.size + 1 by simp] at h; exact h)
  have L0 := hQ (Kd.zz hl B0.out)
  have H0 := hQ (h.below B0.out)
  have HS := hQ hs
  have HT := hQ ht
  have HA := hQ ha
  clear h hs hl ht ha e0
  go_enter Tryz.func250, Tryz.ntmps250
  go_wp2_with (fail)
  go_step3
  go_wp2_with (fail)
  go_step3
  go_wp2_with (fail)
  rw [← hW0]
  clear hW0
  have HSZ := hQ (show w.heap.size + 2 ≤ W0.heap.size from by have := zF Y0.out; omega)
  refine wp_loop_rounds 2 ?_
  rw [rounds_succ]
  obtain ⟨ad, ea, h50, h51, h52⟩ := Yg (Kd.zB L0.out).2.2 0 (by decide) (by simp)
  cases ea
  have i0 : W0.cell? ⟨g0, 0, none⟩ = some (.int .i64 t) := h50
  have i1 : W0.cell? ⟨g0, 1, none⟩ = some (.int .i64 a) := h51
  have i2 : W0.cell? ⟨g0, 2, none⟩ = some (.int .i64 (a + 1)) := h52
  clear h50 h51 h52
  go_wp2_with (fail)
  refine wp_loop_rounds 2 ?_
  rw [rounds_succ]
  obtain ⟨W2, hW2⟩ : ∃ W2, W2 = (W0.alloc (.cells #[.int .i64 t, .int .i64 a, .int .i64 (a + 1)] 78)).alloc (.cells #[.int .i64 t, .int .i64 a] 158) := ⟨_, rfl⟩
  have hb2 : Below W0.heap.size W0 W2 := by rw [hW2]; exact ((Below.refl _ _).alloc (Nat.le_refl _) _).alloc (by simp) _
  have B2 := hQ (zf B0.out B0.out.size hb2)
  have X2 := hQ (zb X0.out hb2)
  have Y2 := hQ (zb Y0.out hb2)
  have P2 := hQ (show W2.heap[W0.heap.size]? = some (.cells #[.int .i64 t, .int .i64 a, .int .i64 (a + 1)] 78 (0, 0)) by rw [hW2]; exact zg (zi W0 _) _)
  have Q2 := hQ (show W2.heap[W0.heap.size + 1]? = some (.cells #[.int .i64 t, .int .i64 a] 158 (0, 0)) by rw [hW2]; have h := zi (W0.alloc (.cells #[.int .i64 t, .int .i64 a, .int .i64 (a + 1)] 78)) (.cells #[.int .i64 t, .int .i64 a] 158); rw [show (W0.alloc (.cells #[.int .i64 t, .int .i64 a, .int .i64 (a + 1)] 78)).heap.size = W0.heap.size + 1 by simp] at h; exact h)
  have H2 := hQ (H0.out.below hb2)
  have hd1 : decide (a < a + 1) = true := decide_eq_true (by omega)
  clear hb2
  go_wp2_with (fail)
  rw [← hW2]
  clear hW2 hd1
  refine (QJ W2 B N st mst s H2.out HS.out t a ⟨WalkArith.wf_i64 (by have := HT.out; omega), WalkArith.wf_i64 (by have := HA.out; omega)⟩).mono ?_
  rintro e w3 ⟨rfl, hb⟩
  have B3 := hQ (zf B2.out B2.out.size hb)
  have X3 := hQ (zb X2.out hb)
  have Y3 := hQ (zb Y2.out hb)
  have P3 := hQ (zb P2.out hb)
  have Q3 := hQ (zb Q2.out hb)
  obtain ⟨m, hm⟩ : ∃ m, m = newest (s.ch (t, a)) := ⟨_, rfl⟩
  rw [← hm]
  have HM := hQ hm
  clear hb hm
  have p2 : w3.cell? ⟨W0.heap.size, 2, none⟩ = some (.int .i64 (a + 1)) := za P3.out 2
  have q0 : w3.cell? ⟨W0.heap.size + 1, 0, none⟩ = some (.int .i64 t) := za Q3.out 0
  have q1 : w3.cell? ⟨W0.heap.size + 1, 1, none⟩ = some (.int .i64 a) := za Q3.out 1
  have x0 : w3.cell? ⟨w.heap.size, 0, none⟩ = some (.int .i64 0) := za X3.out 0
  have x1 : w3.cell? ⟨w.heap.size, 1, none⟩ = some (.int .i64 0) := za X3.out 1
  have y0 : w3.cell? ⟨w.heap.size + 1, 0, none⟩ = some (.int .i64 0) := za Y3.out 0
  have y1 : w3.cell? ⟨w.heap.size + 1, 1, none⟩ = some (.int .i64 0) := za Y3.out 1
  have fx0 : w3.frozen? ⟨w.heap.size, 0, none⟩ = false := zh X3.out 0
  have fx1 : w3.frozen? ⟨w.heap.size, 1, none⟩ = false := zh X3.out 1
  have fy0 : w3.frozen? ⟨w.heap.size + 1, 0, none⟩ = false := zh Y3.out 0
  have fy1 : w3.frozen? ⟨w.heap.size + 1, 1, none⟩ = false := zh Y3.out 1
  cases hle : decide (m ≤ q)
  · have HQ := hQ (show decide (q < newest (s.ch (t, a))) = true from by rw [← HM.out]; exact decide_eq_true (by have := of_decide_eq_false hle; omega))
    go_wp2
    rw [Exit.noGoto_ret]
    refine bodyPost_ret (v := .tuple #[.agg #[.int .i64 t, .int .i64 a], .bool true]) ?_ rfl ?_
    · simp [results, Tryz.results250, go_sem, hu158, x0, x1]
    refine ⟨t, a, by rw [HQ.out], ?_⟩
    repeat (first | exact B3.out | (refine Below.setCell ?_ (by simp) _))
  · have HQ := hQ (show decide (q < newest (s.ch (t, a))) = false from by rw [← HM.out]; exact decide_eq_false (by have := of_decide_eq_true hle; omega))
    go_wp2_with (fail)
    rw [rounds_succ]
    have hd2 : decide (a + 1 < a + 1) = false := decide_eq_false (by omega)
    have hw1 : wrap64 (a + 1) = a + 1 := zu (by have := HA.out; omega) (by have := HA.out; omega)
    go_wp2_with (fail)
    rw [rounds_succ]
    go_wp2_with (fail)
    rw [Exit.noGoto_ret]
    refine bodyPost_ret (v := .tuple #[.agg #[.int .i64 0, .int .i64 0], .bool false]) ?_ rfl ?_
    · simp [results, Tryz.results250, go_sem, hu158, x0, x1]
    exact ⟨0, 0, by rw [HQ.out], (B3.out.setCell (Nat.le_refl _) _).setCell (Nat.le_refl _) _⟩
/-- Nothing was read: nothing clashes. -/
theorem WU (w : World) (st : Nat) (A : Option Addr) (c : Nat) (q : Int) :
    Calls Tryz.prog 250 #[.pointer (some ⟨st, 0, none⟩), .slice A 0 c, .int .u64 q] w fun e w' => ∃ k0 k1, e = .returned (.tuple #[.agg #[.int .i64 k0, .int .i64 k1], .bool false]) ∧ Below w.heap.size w w' := by
  have hu158 := Tryz.underlying158
  have hu25 := Tryz.underlying25
  go_enter Tryz.func250, Tryz.ntmps250
  go_wp2_with (fail)
  go_step3
  go_wp2_with (fail)
  go_step3
  go_wp2_with (fail)
  refine wp_loop_rounds 1 ?_
  rw [rounds_succ]
  go_wp2_with (fail)
  rw [Exit.noGoto_ret]
  refine bodyPost_ret (v := .tuple #[.agg #[.int .i64 0, .int .i64 0], .bool false]) ?_ rfl ?_
  · simp [results, Tryz.results250, go_sem, hu158]
  refine ⟨0, 0, rfl, ?_⟩
  repeat (first | exact Below.refl _ _ | (refine Below.setCell ?_ (by simp) _) | (refine Below.alloc ?_ (by simp) _))
theorem Wu (w : World) (B N st mst : Nat) (s : SS) (h : xg w B N st mst s) (hs : kG s.ch) (A : Option Addr) (c B3 : Nat) (t a q : Int) (hl : Kd.R k78 78 w B3 (fun _ => True) (.slice A 1 c) [⟨t, a, a + 1⟩]) (ht : 0 ≤ t ∧ t < 4) (ha : 0 ≤ a ∧ a < 65536) :
    Calls Tryz.prog 240 #[.pointer (some ⟨st, 0, none⟩), .slice A 1 c, .int .u64 q] w fun e w' => e = .returned (.bool (!(decide (q < newest (s.ch (t, a)))))) ∧ Below w.heap.size w w' := by
  have hu158 := Tryz.underlying158
  go_enter Tryz.func240, Tryz.ntmps240
  go_wp2_with (fail)
  refine (WK w B N st mst s h hs A c B3 t a q hl ht ha).mono ?_
  rintro e w1 ⟨k0, k1, rfl, hb⟩
  have HB := hQ hb
  clear hb h hs hl ht ha
  go_wp2
  go_ret
  refine ⟨rfl, ?_⟩
  repeat (first | exact HB.out | (refine Below.setCell ?_ (by first | (have := HB.out.size; simp; omega)) _) | (refine Below.alloc ?_ HB.out.size _))
theorem WG (w : World) (st : Nat) (A : Option Addr) (c : Nat) (q : Int) :
    Calls Tryz.prog 240 #[.pointer (some ⟨st, 0, none⟩), .slice A 0 c, .int .u64 q] w fun e w' => e = .returned (.bool true) ∧ Below w.heap.size w w' := by
  have hu158 := Tryz.underlying158
  go_enter Tryz.func240, Tryz.ntmps240
  go_wp2_with (fail)
  refine (WU w st A c q).mono ?_
  rintro e w1 ⟨k0, k1, rfl, hb⟩
  have HB := hQ hb
  clear hb
  go_wp2
  go_ret
  refine ⟨rfl, ?_⟩
  repeat (first | exact HB.out | (refine Below.setCell ?_ (by first | (have := HB.out.size; simp; omega)) _) | (refine Below.alloc ?_ HB.out.size _))
def zv : Value := .agg #[.int .u64 0, .slice none 0 0, .slice none 0 0]
theorem zcd (w : World) : (zeroValue 162).run Tryz.prog w = .ok zv w := by kernel_rfl
section
variable {w w1 : World} {B N en st me c : Nat} {most spans writes : Int} {vs : Int → Option VS}
theorem zdH (w : World) (B : Nat) : xK w B zv ⟨0, [], []⟩ := ⟨none, 0, none, 0, rfl, Kd.ql _ _ _ _ _, Kd.ql _ _ _ _ _⟩
theorem jd.look_ok (h : jd w B N en st me most spans writes c vs) {k : Int} (hk : (Lit.int .i64 k).wf = true) : ∃ v, (Instr.lookup 123 (.map (some me)) (.int .i64 k) true).run Tryz.prog w = .ok (.tuple #[v, .bool (vs k).isSome]) w ∧ xK w B v ((vs k).getD ⟨0, [], []⟩) := by
  obtain ⟨F, hm, h1, h2⟩ := h.map
  have hl := hm.look_ok Tryz.underlying123 (zcd w) (x := k) hk
  cases e : vs k with
  | none =>
    rw [h1 k e] at hl
    exact ⟨zv, hl, zdH w B⟩
  | some x =>
    obtain ⟨v, e1, e2⟩ := h2 k x e
    rw [e1] at hl
    exact ⟨v, hl, e2⟩
theorem jd.put (h : jd w B N en st me most spans writes c vs) (hN : N < maxLen) {k : Int} (hk : (Lit.int .i64 k).wf = true) (v : Value) (x : VS) (hv : xK w B v x) :
    ∃ w1, (Instr.mapUpdate 123 (.map (some me)) (.int .i64 k) v).run Tryz.prog w = .ok () w1 ∧ jd w1 B (N + 1) en st me most spans writes (if (vs k).isSome then c else c + 1) (upd vs k (some x)) ∧ Ch [] [me] B w w1 := by
  obtain ⟨F, hm, h1, h2⟩ := h.map
  obtain ⟨w1, hrun, hm1, hg⟩ := hm.put Tryz.underlying123 hN (x := k) hk v
  have hc : Ch [] [me] B w w1 := Ch.of_map hg (List.mem_singleton.2 rfl) h.base.2 h.lt (qQ h.mapb)
  have hs : (F k).isSome = (vs k).isSome := by
    cases e : vs k with
    | none =>
      rw [h1 k e]
      rfl
    | some y =>
      obtain ⟨u, e1, _⟩ := h2 k y e
      rw [e1]
      rfl
  rw [hs] at hm1
  refine ⟨w1, hrun, ⟨hc.cell h.blk (by simp), ⟨_, hm1, fun y hy => ?_, fun y z hz => ?_⟩, h.base⟩, hc⟩
  · unfold upd at hy
    try dsimp only
    by_cases hyk : y = k
    · rw [if_pos hyk] at hy
      cases hy
    · rw [if_neg hyk] at hy ⊢
      exact h1 y hy
  · unfold upd at hz
    try dsimp only
    by_cases hyk : y = k
    · rw [if_pos hyk] at hz ⊢
      obtain rfl := Option.some.inj hz
      exact ⟨v, rfl, hv.ch hc (by simp) (by simp)⟩
    · rw [if_neg hyk] at hz ⊢
      obtain ⟨u, e1, e2⟩ := h2 y z hz
      exact ⟨u, e1, e2.ch hc (by simp) (by simp)⟩
theorem jd.del (h : jd w B N en st me most spans writes c vs) {k : Int} (hk : (Lit.int .i64 k).wf = true) (ty : TypeId) :
    ∃ w1, (Builtin.delete_ #[123, 3] ty #[.map (some me), .int .i64 k]).run Tryz.prog w = .ok (.tuple #[]) w1 ∧ jd w1 B N en st me most spans writes (if (vs k).isSome then c - 1 else c) (upd vs k none) ∧ Ch [] [me] B w w1 := by
  obtain ⟨F, hm, h1, h2⟩ := h.map
  obtain ⟨w1, hrun, hm1, hg⟩ := hm.del Tryz.underlying123 (x := k) hk ty
  have hc : Ch [] [me] B w w1 := Ch.of_map hg (List.mem_singleton.2 rfl) h.base.2 h.lt (qQ h.mapb)
  have hs : (F k).isSome = (vs k).isSome := by
    cases e : vs k with
    | none =>
      rw [h1 k e]
      rfl
    | some y =>
      obtain ⟨u, e1, _⟩ := h2 k y e
      rw [e1]
      rfl
  rw [hs] at hm1
  refine ⟨w1, hrun, ⟨hc.cell h.blk (by simp), ⟨_, hm1, fun y hy => ?_, fun y z hz => ?_⟩, h.base⟩, hc⟩
  · unfold upd at hy
    try dsimp only
    by_cases hyk : y = k
    · rw [if_pos hyk]
    · rw [if_neg hyk] at hy ⊢
      exact h1 y hy
  · unfold upd at hz
    try dsimp only
    by_cases hyk : y = k
    · rw [if_pos hyk] at hz
      cases hz
    · rw [if_neg hyk] at hz ⊢
      obtain ⟨u, e1, e2⟩ := h2 y z hz
      exact ⟨u, e1, e2.ch hc (by simp) (by simp)⟩
theorem jd.len (h : jd w B N en st me most spans writes c vs) (ty : TypeId) : (Builtin.len_ #[123] ty #[.map (some me)]).run Tryz.prog w = .ok (.int .i64 (c : Int)) w := by
  obtain ⟨F, hm, _⟩ := h.map
  exact hm.len Tryz.underlying123 ty
end
def Sg.put (g : Sg) (k : Int) (x : VS) : Sg := { g with vs := upd g.vs k (some x), nv := if (g.vs k).isSome then g.nv else g.nv + 1 }
def Sg.del (g : Sg) (k : Int) : Sg := { g with vs := upd g.vs k none, nv := if (g.vs k).isSome then g.nv - 1 else g.nv }
theorem JQ (w : World) (B N B2 : Nat) (x : Ix) (g : Sg) (h : ym w B N x g) (hN : N < maxLen) (k : Int) (hk : (Lit.int .i64 k).wf = true) (v : Value) (y : VS) (hv : xK w B v y) :
    Calls Tryz.prog 232 #[.pointer (some ⟨x.en, 0, none⟩), .int .i64 k, v, .int .i64 0] w fun e w' => e = .returned (.int .i64 0) ∧ ym w' B (N + 1) x (g.put k y) ∧ Ch TS (MS x) B w w' := by
  obtain ⟨A1, c1, A2, c2, rfl, r1, r2⟩ := hv
  have hu125 := Tryz.underlying125
  have hu162 := Tryz.underlying162
  have hb1 : Below w.heap.size w ((w.alloc (.cells #[.int .u64 y.snap, .slice A1 y.reads.length c1, .slice A2 y.writes.length c2] 162)).drew) := ((Below.refl _ _).alloc (Nat.le_refl _) _).trans (zl (Below.refl _ _))
  have H1 := hQ (h.below hb1)
  have C1 := hQ (h.chb hb1)
  obtain ⟨w2, hrun, hE, hC⟩ := H1.out.en.put hN hk (.agg #[.int .u64 y.snap, .slice A1 y.reads.length c1, .slice A2 y.writes.length c2]) y ⟨A1, c1, A2, c2, rfl, Kd.zz r1 hb1, Kd.zz r2 hb1⟩
  have H2 := hQ (H1.out.of_eng (Nat.le_succ N) hE hC)
  obtain ⟨c0, c1', c2', c3, c4⟩ := (h.below ((Below.refl _ _).alloc (Nat.le_refl _) (.cells #[.int .u64 y.snap, .slice A1 y.reads.length c1, .slice A2 y.writes.length c2] 162))).en.cells
  clear h hb1 hE hC r1 r2 hN hk
  go_enter Tryz.func232, Tryz.ntmps232
  go_wp2_with (fail)
  go_region
  go_wp2
  go_ret
  exact ⟨rfl, H2.out.1, C1.out.trans H2.out.2⟩
theorem JL : ∀ (q : Int) (W : World), (Instr.build 162 #[(0, .int .u64 q)]).run Tryz.prog W = .ok (.agg #[.int .u64 q, .slice none 0 0, .slice none 0 0]) W := fun q W => by kernel_rfl
theorem We (w : World) (B N : Nat) (x : Ix) (g : Sg) (h : ym w B N x g) (hN : N < maxLen) (k : Int) (hk : (Lit.int .i64 k).wf = true) (hno : g.vs k = none) (hm : (g.nv : Int) < x.most) :
    Calls Tryz.prog 228 #[.pointer (some ⟨x.en, 0, none⟩), .int .i64 k] w fun e w' => e = .returned (.int .i64 0) ∧ ym w' B (N + 1) x (g.put k ⟨g.s.last, [], []⟩) ∧ Ch TS (MS x) B w w' := by
  have hu125 := Tryz.underlying125
  have hu162 := Tryz.underlying162
  have hb162 := JL
  obtain ⟨v, hl, hv⟩ := h.en.look_ok hk
  rw [hno] at hl hv
  obtain ⟨A1, c1, A2, c2, rfl, _, _⟩ := (show xK w B v ⟨0, [], []⟩ from hv).open0
  have hl2 : (Instr.lookup 123 (.map (some x.me)) (.int .i64 k) true).run Tryz.prog w = .ok (.tuple #[.agg #[.int .u64 0, .slice A1 0 c1, .slice A2 0 c2], .bool false]) w := hl
  obtain ⟨W1, hW1⟩ : ∃ W1, W1 = (w.alloc (.cells #[.int .u64 0, .slice A1 0 c1, .slice A2 0 c2] 162)) := ⟨_, rfl⟩
  have hb1 : Below w.heap.size w W1 := by rw [hW1]; exact (Below.refl _ _).alloc (Nat.le_refl _) _
  have H1 := hQ (h.below hb1)
  have H2 := hQ (H1.out.below (zl (Below.refl _ _)))
  have C2 := hQ (h.chb (hb1.trans (zl (Below.refl _ _))))
  obtain ⟨c0, c1', c2', c3, c4⟩ := h.en.cells
  obtain ⟨d0, d1, d2, d3, d4⟩ := H1.out.en.cells
  have hlen := H2.out.en.len 3
  have hlen2 := H2.out.en.len 0
  have hd : decide ((g.nv : Int) ≥ x.most) = false := decide_eq_false (by omega)
  have HN := hQ hN
  have HK := hQ hk
  clear h hl hv hb1 hN hk hno hm
  go_enter Tryz.func228, Tryz.ntmps228
  go_wp2_with (fail)
  rw [← hW1]
  clear hW1 hl2 c0 c1' c2' c3 c4
  go_region
  go_wp2_with (fail)
  have H3 := hQ (H2.out.below (zl (Below.refl _ _)))
  have C3 := hQ (C2.out.trans (H2.out.chb (zl (Below.refl _ _))))
  go_region_law (first | (go_simp; go_at_call 21; refine (kX _ B N x.st x.mst g.s H3.out.st).mono ?_; rintro e w3 ⟨rfl, hb⟩; have H4 := hQ (H3.out.below hb); have C4 := hQ (C3.out.trans (H3.out.chb hb)); obtain ⟨w5, hrun, hE, hC⟩ := H4.out.en.put HN.out HK.out (.agg #[.int .u64 g.s.last, .slice none 0 0, .slice none 0 0]) ⟨g.s.last, [], []⟩ ⟨none, 0, none, 0, rfl, Kd.ql _ _ _ _ _, Kd.ql _ _ _ _ _⟩; have hr2 : (Instr.mapUpdate 123 (.map (some x.me)) (.int .i64 k) (.agg #[.int .u64 g.s.last, .slice none 0 0, .slice none 0 0])).run Tryz.prog w3 = .ok () w5 := hrun; have H5 := hQ (H4.out.of_eng (Nat.le_succ N) hE hC); obtain ⟨e0, e1, e2, e3, e4⟩ := H4.out.en.cells; clear hb hrun hE hC))
  all_goals
    go_wp2
    go_ret
    exact ⟨rfl, H5.out.1, C4.out.trans H5.out.2⟩
theorem right_eq (t a b : Int) (ht : 0 ≤ t ∧ t < 4) (ha : 0 ≤ a ∧ a < b ∧ b ≤ 65536) : jR.f t a b = some true := by
  unfold jR.f
  rw [if_pos (by omega), if_pos (by omega), if_pos (by omega), if_pos (by omega), dT ha.2.1]
theorem KM (w : World) (B N : Nat) (x : Ix) (g : Sg) (h : ym w B N x g) (hN : N + 10 < maxLen) (c : Int) (hc : (Lit.int .i64 c).wf = true) (hno : g.vs c = none) (hst : ((g.ses c).getD (0, 0, 0)).1 ≠ 1) (hm : (g.nv : Int) < x.most) :
    Calls Tryz.prog 209 #[.pointer (some ⟨x.ss, 0, none⟩), .int .i64 c] w fun e w' => e = .returned (.int .i64 0) ∧ ym w' B (N + 3) x ((g.put c ⟨g.s.last, [], []⟩).turn c (1, 0, g.s.last)) ∧ Ch TS (MS x) B w w' := by
  have hu133 := Tryz.underlying133
  have HW := hQ h
  have HN := hQ hN
  have HC := hQ hc
  have HNO := hQ hno
  have HM := hQ hm
  have hd : (((g.ses c).getD (0, 0, 0)).1 == 1) = false := by simpa using hst
  have HD := hQ hd
  clear h hN hc hno hst hm hd
  go_enter Tryz.func209, Tryz.ntmps209
  go_wp2_with (fail)
  refine (vZ w B N x.ss x.en x.bk x.ms x.ticks g.ses HW.out.ss c HC.out).mono ?_
  rintro e w1 ⟨rfl, hb⟩
  rw [HD.out]
  have H1 := hQ (HW.out.below hb)
  have C1 := hQ (HW.out.chb hb)
  obtain ⟨c0, c1, c2, c3⟩ := H1.out.ss.cells
  clear hb
  go_wp2_with (fail)
  refine (We w1 B N x g H1.out (by have := HN.out; omega) c HC.out HNO.out HM.out).mono ?_
  rintro e w2 ⟨rfl, h2, k2⟩
  have H2 := hQ h2
  have C2 := hQ (C1.out.trans k2)
  obtain ⟨d0, d1, d2, d3⟩ := H2.out.ss.cells
  clear h2 k2 c0 c1 c2 c3
  go_wp2_with (fail)
  refine (Yf w2 B (N + 1) x.en x.st x.me x.most x.spans x.writes _ _ H2.out.en).mono ?_
  rintro e w3 ⟨rfl, hb⟩
  have H3 := hQ (H2.out.below hb)
  have C3 := hQ (C2.out.trans (H2.out.chb hb))
  clear hb d0 d1 d2 d3
  go_wp2_with (fail)
  refine (kX w3 B (N + 1) x.st x.mst g.s H3.out.st).mono ?_
  rintro e w4 ⟨rfl, hb⟩
  have H4 := hQ (H3.out.below hb)
  have C4 := hQ (C3.out.trans (H3.out.chb hb))
  clear hb
  go_wp2_with (fail)
  refine (kI w4 B (N + 1) x _ H4.out (by have := HN.out; omega) c HC.out 1 0 g.s.last).mono ?_
  rintro e w5 ⟨rfl, h5, k5⟩
  have H5 := hQ h5
  have C5 := hQ (C4.out.trans k5)
  obtain ⟨e0, e1, e2, e3⟩ := H5.out.ss.cells
  clear h5 k5
  go_wp2_with (fail)
  refine (XF w5 B (N + 1 + 1) x.bk x.mb x.ticks H5.out.bk (by have := HN.out; omega) c HC.out).mono ?_
  rintro e w6 ⟨rfl, hK, hC⟩
  have H6 := hQ (H5.out.of_book (Nat.le_succ _) hK hC)
  clear hK hC e0 e1 e2 e3
  go_wp2
  go_ret
  exact ⟨rfl, H6.out.1, C5.out.trans H6.out.2⟩
theorem XE (w : World) (s : Nat) (c : Int) :
    Calls Tryz.prog 213 #[.pointer (some ⟨s, 0, none⟩), .int .i64 c, .int .i64 0] w fun e w' => e = .returned (.int .i64 0) ∧ Below w.heap.size w w' := by
  go_enter Tryz.func213, Tryz.ntmps213
  go_wp2
  go_ret
  exact ⟨rfl, Below.refl _ _⟩
def zdA (e : Int) : Int := if e = 7 then 2 else 0
theorem ZI (w : World) (e0 : Int) (he : e0 = 0 ∨ e0 = 7) :
    Calls Tryz.prog 230 #[.int .i64 e0] w fun e w' => e = .returned (.int .i64 (zdA e0)) ∧ Below w.heap.size w w' := by
  rcases he with rfl | rfl
  · go_enter Tryz.func230, Tryz.ntmps230
    go_wp2
    go_ret
    exact ⟨rfl, Below.refl _ _⟩
  · go_enter Tryz.func230, Tryz.ntmps230
    go_wp2
    go_ret
    exact ⟨rfl, Below.refl _ _⟩
def xO (ch : Int × Int → List xU) (rs : List S78) (q : Int) : Bool := match rs with
  | [r] => !(decide (q < newest (ch (r.f0, r.f1))))
  | _ => true
def vU (rs : List S78) : Prop := rs = [] ∨ ∃ t a, rs = [⟨t, a, a + 1⟩] ∧ (0 ≤ t ∧ t < 4) ∧ (0 ≤ a ∧ a < 65536)
theorem VR (w : World) (B N st mst : Nat) (s : SS) (h : xg w B N st mst s) (hs : kG s.ch) (A : Option Addr) (c B3 : Nat) (rs : List S78) (q : Int) (hl : Kd.R k78 78 w B3 (fun _ => True) (.slice A rs.length c) rs) (hr : vU rs) :
    Calls Tryz.prog 240 #[.pointer (some ⟨st, 0, none⟩), .slice A rs.length c, .int .u64 q] w fun e w' => e = .returned (.bool (xO s.ch rs q)) ∧ Below w.heap.size w w' := by
  rcases hr with rfl | ⟨t, a, rfl, ht, ha⟩
  · exact WG w st A c q
  · exact Wu w B N st mst s h hs A c B3 t a q hl ht ha
def Sg.commit (g : Sg) (k : Int) (v : VS) : Sg := if xO g.s.ch v.reads v.snap then { g.del k with s := g.s.inst v.writes } else g.del k
theorem Ve (w : World) (B N : Nat) (x : Ix) (g : Sg) (h : ym w B N x g) (hN : N + 2000 < maxLen) (hs : kG g.s.ch) (k : Int) (hk : (Lit.int .i64 k).wf = true) (q : Int) (rs : List S78) (y : yg) (hv0 : g.vs k = some ⟨q, rs, [y]⟩) (hr : vU rs) (hy : qw y) (hlast : 0 ≤ g.s.last ∧ g.s.last < 1000000) (hfull : 0 ≤ g.s.n ∧ g.s.n + 1 ≤ g.s.most ∧ g.s.most ≤ 1000000) :
    Calls Tryz.prog 229 #[.pointer (some ⟨x.en, 0, none⟩), .int .i64 k] w fun e w' => e = .returned (.tuple (if xO g.s.ch rs q then #[.int .u64 (g.s.last + 1), .int .i64 0] else #[.int .u64 0, .int .i64 7])) ∧ ym w' B (N + 1) x (g.commit k ⟨q, rs, [y]⟩) ∧ Ch TS (MS x) B w w' := by
  have hu125 := Tryz.underlying125
  have hu162 := Tryz.underlying162
  have hmf : ∀ (fn : Fn) (first cap : Array Value) (w : World), (Instr.makeFunc fn first cap).run Tryz.prog w = .ok (.func fn first cap) w := fun _ _ _ _ => rfl
  obtain ⟨v, hl, hv⟩ := h.en.look_ok hk
  rw [hv0] at hl hv
  obtain ⟨A1, c1, A2, c2, rfl, r1, r2⟩ := (show xK w B v ⟨q, rs, [y]⟩ from hv)
  have hl2 : (Instr.lookup 123 (.map (some x.me)) (.int .i64 k) true).run Tryz.prog w = .ok (.tuple #[.agg #[.int .u64 q, .slice A1 rs.length c1, .slice A2 1 c2], .bool true]) w := hl
  obtain ⟨W1, hW1⟩ : ∃ W1, W1 = w.alloc (.cells #[.int .u64 q, .slice A1 rs.length c1, .slice A2 1 c2] 162) := ⟨_, rfl⟩
  have hb1 : Below w.heap.size w W1 := by rw [hW1]; exact (Below.refl _ _).alloc (Nat.le_refl _) _
  have H1 := hQ (h.below hb1)
  have C1 := hQ (h.chb hb1)
  have X1 := hQ (show W1.heap[w.heap.size]? = some (.cells #[.int .u64 q, .slice A1 rs.length c1, .slice A2 1 c2] 162 (0, 0)) by rw [hW1]; exact zi w _)
  have R1 := hQ (Kd.zz r1 hb1)
  have R2 := hQ (show Kd.R xL 208 W1 B (fun _ => True) (.slice A2 1 c2) [y] from Kd.zz r2 hb1)
  obtain ⟨c0, c1', c2', c3, c4⟩ := h.en.cells
  obtain ⟨d0, d1, d2, d3, d4⟩ := H1.out.en.cells
  obtain ⟨w2, hrun, hE, hC⟩ := H1.out.en.del hk 0
  have hr2 : (Builtin.delete_ #[123, 3] 0 #[.map (some x.me), .int .i64 k]).run Tryz.prog W1 = .ok (.tuple #[]) w2 := hrun
  have H2 := hQ (show ym w2 B N x (g.del k) from (H1.out.of_eng (Nat.le_refl N) hE hC).1)
  have C2 := hQ (C1.out.trans (H1.out.of_eng (Nat.le_refl N) hE hC).2)
  have X2 := hQ (hC.cell X1.out (by decide))
  have R12 := hQ (hC.R R1.out (by decide))
  have R22 := hQ (hC.R R2.out (by decide))
  obtain ⟨e0, e1, e2, e3, e4⟩ := H2.out.en.cells
  have x0 : w2.cell? ⟨w.heap.size, 0, none⟩ = some (.int .u64 q) := za X2.out 0
  have x1 : w2.cell? ⟨w.heap.size, 1, none⟩ = some (.slice A1 rs.length c1) := za X2.out 1
  have x2 : w2.cell? ⟨w.heap.size, 2, none⟩ = some (.slice A2 1 c2) := za X2.out 2
  have HS := hQ hs
  have HK := hQ hk
  have HR := hQ hr
  have HY := hQ hy
  have HL := hQ hlast
  have HF := hQ hfull
  have HN := hQ hN
  clear h hl hv hb1 hN hs hk hr hy hlast hfull hrun hE hC r1 r2 hv0
  go_enter Tryz.func229, Tryz.ntmps229
  go_upto_region 4 with (fail)
  rw [← hW1]
  clear hW1 hl2 c0 c1' c2' c3 c4
  go_wp2_with (fail)
  go_region_law (first | (go_simp; go_at_call 240; refine (VR _ B N x.st x.mst g.s (H2.out.below (zl (Below.refl _ _))).st HS.out A1 c1 B rs q (Kd.zz R12.out (zl (Below.refl _ _))) HR.out).mono ?_; rintro e w3 ⟨rfl, hb⟩; have H3 := hQ ((H2.out.below (zl (Below.refl _ _))).below hb); have C3 := hQ (C2.out.trans (Ch.trans (H2.out.chb (zl (Below.refl _ _))) ((H2.out.below (zl (Below.refl _ _))).chb hb))); have X3 := hQ (zb (zb X2.out (zl (Below.refl _ _))) hb); have R23 := hQ (Kd.zz (Kd.zz R22.out (zl (Below.refl _ _))) hb); clear hb))
  all_goals
    have y2 : w3.cell? ⟨w.heap.size, 2, none⟩ = some (.slice A2 1 c2) := za X3.out 2
    cases hfr : xO g.s.ch rs q
    · have HFR := hQ hfr
      have HZ := hQ (show ym w3 B (N + 1) x (g.commit k ⟨q, rs, [y]⟩) by
        unfold Sg.commit
        rw [show xO g.s.ch (VS.mk q rs [y]).reads (VS.mk q rs [y]).snap = false from hfr]
        exact H3.out.mono (Nat.le_succ N))
      go_wp2
      all_goals
        refine bodyPost_ret (v := .tuple #[.int .u64 0, .int .i64 7]) ?_ rfl ?_
        · simp [results, Tryz.results229, go_sem]
        exact ⟨rfl, HZ.out, C3.out⟩
    · have HFR := hQ hfr
      go_wp2_with (go_at_call 76; refine (Zj w3 B N x.st x.mst B g.s H3.out.st HS.out A2 c2 [y] R23.out ⟨fun z hz => by rw [List.mem_singleton.1 hz]; exact HY.out, List.pairwise_singleton _ _⟩ (by simp) (by have := HN.out; omega) HL.out HF.out).mono ?_; rintro e w5 ⟨rfl, hS, hC⟩; have H5 := hQ (H3.out.of_store (Nat.le_succ N) hS hC); clear hS hC)
      refine bodyPost_ret (v := .tuple #[.int .u64 (g.s.last + 1), .int .i64 0]) ?_ rfl ?_
      · simp [results, Tryz.results229, go_sem, Sg.del]
      refine ⟨rfl, ?_, C3.out.trans H5.out.2⟩
      unfold Sg.commit
      rw [show xO g.s.ch (VS.mk q rs [y]).reads (VS.mk q rs [y]).snap = true from HFR.out]
      exact H5.out.1
def Sg.scommit (g : Sg) (c : Int) (v : VS) : Sg := (g.commit c v).turn c (0, if xO g.s.ch v.reads v.snap then 0 else 2, if xO g.s.ch v.reads v.snap then g.s.last + 1 else 0)
theorem Ju (w : World) (B N : Nat) (x : Ix) (g : Sg) (h : ym w B N x g) (hN : N + 2000 < maxLen) (hs : kG g.s.ch) (k : Int) (hk : (Lit.int .i64 k).wf = true) (hst : ((g.ses k).getD (0, 0, 0)).1 = 1) (q : Int) (rs : List S78) (y : yg) (hv0 : g.vs k = some ⟨q, rs, [y]⟩) (hr : vU rs) (hy : qw y) (hlast : 0 ≤ g.s.last ∧ g.s.last < 1000000) (hfull : 0 ≤ g.s.n ∧ g.s.n + 1 ≤ g.s.most ∧ g.s.most ≤ 1000000) :
    Calls Tryz.prog 210 #[.pointer (some ⟨x.ss, 0, none⟩), .int .i64 k] w fun e w' => e = .returned (.int .i64 (if xO g.s.ch rs q then 0 else 7)) ∧ ym w' B (N + 2) x (g.scommit k ⟨q, rs, [y]⟩) ∧ Ch TS (MS x) B w w' := by
  have hu133 := Tryz.underlying133
  have HW := hQ h
  have HN := hQ hN
  have HS := hQ hs
  have HK := hQ hk
  have HV := hQ hv0
  have HR := hQ hr
  have HY := hQ hy
  have HL := hQ hlast
  have HF := hQ hfull
  have HD := hQ (show (((g.ses k).getD (0, 0, 0)).1 == 1) = true by simpa using hst)
  clear h hN hs hk hst hv0 hr hy hlast hfull
  go_enter Tryz.func210, Tryz.ntmps210
  go_wp2_with (fail)
  refine (vZ w B N x.ss x.en x.bk x.ms x.ticks g.ses HW.out.ss k HK.out).mono ?_
  rintro e w1 ⟨rfl, hb⟩
  rw [HD.out]
  have H1 := hQ (HW.out.below hb)
  have C1 := hQ (HW.out.chb hb)
  obtain ⟨c0, c1, c2, c3⟩ := H1.out.ss.cells
  clear hb
  go_wp2_with (fail)
  refine (Ve w1 B N x g H1.out HN.out HS.out k HK.out q rs y HV.out HR.out HY.out HL.out HF.out).mono ?_
  rintro e w2 ⟨rfl, h2, k2⟩
  have H2 := hQ h2
  have C2 := hQ (C1.out.trans k2)
  clear h2 k2 c0 c1 c2 c3
  cases hfr : xO g.s.ch rs q
  · have HE := hQ (show g.scommit k ⟨q, rs, [y]⟩ = (g.commit k ⟨q, rs, [y]⟩).turn k (0, 2, 0) by
      unfold Sg.scommit
      rw [show xO g.s.ch (VS.mk q rs [y]).reads (VS.mk q rs [y]).snap = false from hfr]
      rfl)
    go_wp2_with (fail)
    refine (ZI w2 7 (Or.inr rfl)).mono ?_
    rintro e w3 ⟨rfl, hb⟩
    have H3 := hQ (H2.out.below hb)
    have C3 := hQ (C2.out.trans (H2.out.chb hb))
    clear hb
    go_wp2_with (fail)
    refine (kI w3 B (N + 1) x _ H3.out (by have := HN.out; omega) k HK.out 0 2 0).mono ?_
    rintro e w4 ⟨rfl, h4, k4⟩
    have H4 := hQ h4
    have C4 := hQ (C3.out.trans k4)
    clear h4 k4
    go_wp2
    all_goals
      go_ret
      exact ⟨rfl, by rw [HE.out]; exact H4.out, C4.out⟩
  · have HE := hQ (show g.scommit k ⟨q, rs, [y]⟩ = (g.commit k ⟨q, rs, [y]⟩).turn k (0, 0, g.s.last + 1) by
      unfold Sg.scommit
      rw [show xO g.s.ch (VS.mk q rs [y]).reads (VS.mk q rs [y]).snap = true from hfr]
      rfl)
    go_wp2_with (fail)
    refine (ZI w2 0 (Or.inl rfl)).mono ?_
    rintro e w3 ⟨rfl, hb⟩
    have H3 := hQ (H2.out.below hb)
    have C3 := hQ (C2.out.trans (H2.out.chb hb))
    clear hb
    go_wp2_with (fail)
    refine (kI w3 B (N + 1) x _ H3.out (by have := HN.out; omega) k HK.out 0 0 (g.s.last + 1)).mono ?_
    rintro e w4 ⟨rfl, h4, k4⟩
    have H4 := hQ h4
    have C4 := hQ (C3.out.trans k4)
    clear h4 k4
    go_wp2
    all_goals
      go_ret
      exact ⟨rfl, by rw [HE.out]; exact H4.out, C4.out⟩
open Go.Proofs.YtlalbohhopmpdaaGreat.Tiny
theorem Ch.set3 {B : Nat} {w : World} {g : Nat} {cs : Array Value} {x : Nat × Nat} (hg : w.heap[g]? = some (.cells cs 162 x)) (hB : B ≤ g) (v0 v1 v2 : Value) : Ch [162] [] B w (((w.setCell ⟨g, 0, none⟩ v0).setCell ⟨g, 1, none⟩ v1).setCell ⟨g, 2, none⟩ v2) := by
  have e : ∀ j, j ≠ g → (((w.setCell ⟨g, 0, none⟩ v0).setCell ⟨g, 1, none⟩ v1).setCell ⟨g, 2, none⟩ v2).heap[j]? = w.heap[j]? := fun j hj =>
    (Below.heap_setCell _ ⟨g, 2, none⟩ v2 j hj).trans ((Below.heap_setCell _ ⟨g, 1, none⟩ v1 j hj).trans (Below.heap_setCell _ ⟨g, 0, none⟩ v0 j hj))
  exact ⟨rfl, rfl, rfl, by simp [World.setCell], fun j hj => e j (by omega), fun m hm => (by cases hm), fun j hj _ h2 => e j (fun e => by
    subst e
    exact h2 cs 162 x hg (by simp))⟩
theorem ym.ch162 {B N : Nat} {w w1 : World} {x : Ix} {g : Sg} (h : ym w B N x g) (hc : Ch [162] [] B w w1) : ym w1 B N x g :=
  ⟨h.st.ch hc (by decide) (by decide) (by simp), h.en.ch hc (by decide) (by decide) (by decide) (by simp), h.bk.ch hc (by decide) (by simp), h.ss.ch hc (by decide) (by simp), h.ne⟩
theorem xK.of_below {w w1 : World} {B : Nat} {v : Value} {x : VS} (h : xK w B v x) (hb : Below w.heap.size w w1) : xK w1 B v x := by
  obtain ⟨A1, c1, A2, c2, e, r1, r2⟩ := h
  exact ⟨A1, c1, A2, c2, e, Kd.zz r1 hb, Kd.zz r2 hb⟩
theorem YT {B : Nat} {w0 w : World} (h : Below B w0 w) {g : Nat} (hg : B ≤ g) (v0 v1 v2 : Value) : Below B w0 (((w.setCell ⟨g, 0, none⟩ v0).setCell ⟨g, 1, none⟩ v1).setCell ⟨g, 2, none⟩ v2) := ((h.setCell hg _).setCell hg _).setCell hg _
structure RdF (B N : Nat) (x : Ix) (g : Sg) (ws vs : Nat) (q : Int) (A1 A2 : Option Addr) (c1 c2 : Nat) (t a b : Int) (W : World) : Prop where
  h : ym W B N x g
  sp : x.spans = 500
  X : W.heap[ws]? = some (.cells #[.int .i64 t, .int .i64 a, .int .i64 b] 78 (0, 0))
  P : W.heap[vs]? = some (.cells #[.int .u64 q, .slice A1 0 c1, .slice A2 0 c2] 162 (0, 0))
section
variable {B N : Nat} {x : Ix} {g : Sg} {ws vs : Nat} {q : Int} {A1 A2 : Option Addr} {c1 c2 : Nat} {t a b : Int} {W W1 : World}
theorem RdF.s7 (f : RdF B N x g ws vs q A1 A2 c1 c2 t a b W) : W.cell? ⟨ws, 2, none⟩ = some (.int .i64 b) := za f.X 2
end
theorem Wi (w : World) (x : yg) (hx : qw x) :
    Calls Tryz.prog 246 #[.agg #[.int .i64 x.f0.f0, .int .i64 x.f0.f1, .int .u16 x.f1]] w fun e w' => e = .returned (.bool false) ∧ Below w.heap.size w w' := by
  have hu208 := Tryz.underlying208
  have hb1 : Below w.heap.size w (w.alloc (.cells #[.int .i64 x.f0.f0, .int .i64 x.f0.f1, .int .u16 x.f1] 208)) := (Below.refl _ _).alloc (Nat.le_refl _) _
  have B1 := hQ hb1
  have X1 := hQ (zi w (.cells #[.int .i64 x.f0.f0, .int .i64 x.f0.f1, .int .u16 x.f1] 208 (0, 0)))
  have HX := hQ hx
  clear hb1 hx
  go_enter Tryz.func246, Tryz.ntmps246
  go_wp2_with (fail)
  refine (zax _ x.f0.f0 x.f0.f1 x.f1 HX.out).mono ?_
  rintro e w2 ⟨rfl, hb⟩
  have B2 := hQ (zf B1.out B1.out.size hb)
  clear hb
  go_wp2
  go_ret
  exact ⟨rfl, B2.out⟩
theorem Wy (w : World) (x : yg) (hx : qw x) (A : Option Addr) (c B3 : Nat) (hl : Kd.R xL 208 w B3 (fun _ => True) (.slice A 1 c) [x]) :
    Calls Tryz.prog 255 #[.slice A 1 c, .func (.func 246) #[] #[]] w fun e w' => e = .returned (.int .i64 (-1)) ∧ Below w.heap.size w w' := by
  have hu208 := Tryz.underlying208
  have hu155 := Tryz.underlying155
  obtain ⟨g0, cap0, e0, _, _, _⟩ := Kd.qm hl (by simp)
  obtain ⟨rfl, rfl⟩ : A = some ⟨g0, 0, none⟩ ∧ c = cap0 := by injection e0 with h1 h2 h3; exact ⟨h1, h3⟩
  obtain ⟨ad, ea, h50, h51, h52⟩ := kz (Kd.zB hl).2.2 0 (by decide) (by simp)
  cases ea
  have i0 : w.cell? ⟨g0, 0, none⟩ = some (.int .i64 x.f0.f0) := h50
  have i1 : w.cell? ⟨g0, 1, none⟩ = some (.int .i64 x.f0.f1) := h51
  have i2 : w.cell? ⟨g0, 2, none⟩ = some (.int .u16 x.f1) := h52
  have HX := hQ hx
  clear hx hl h50 h51 h52 e0
  go_enter Tryz.func255, Tryz.ntmps255
  go_wp2_with (fail)
  refine wp_loop_rounds 2 ?_
  rw [rounds_succ]
  go_wp2_with (fail)
  go_at_call 246
  refine (Wi w x HX.out).mono ?_
  rintro e w2 ⟨rfl, hb⟩
  have HB := hQ hb
  clear hb
  go_wp2_with (fail)
  rw [rounds_succ]
  go_wp2_with (fail)
  go_wp2
  go_ret
  exact ⟨rfl, HB.out⟩
theorem QO (w : World) (x : yg) (hx : qw x) (A : Option Addr) (c B3 : Nat) (hl : Kd.R xL 208 w B3 (fun _ => True) (.slice A 1 c) [x]) :
    Calls Tryz.prog 247 #[.slice A 1 c, .func (.func 246) #[] #[]] w fun e w' => e = .returned (.bool false) ∧ Below w.heap.size w w' := by
  have HX := hQ hx
  have HL := hQ hl
  clear hx hl
  go_enter Tryz.func247, Tryz.ntmps247
  go_wp2_with (fail)
  refine (Wy w x HX.out A c B3 HL.out).mono ?_
  rintro e w2 ⟨rfl, hb⟩
  have HB := hQ hb
  clear hb
  go_wp2
  go_ret
  exact ⟨rfl, HB.out⟩
theorem VL (w : World) (x : yg) (hx : qw x) (A : Option Addr) (c B3 : Nat) (hl : Kd.R xL 208 w B3 (fun _ => True) (.slice A 1 c) [x]) :
    Calls Tryz.prog 235 #[.slice A 1 c] w fun e w' => e = .returned (.bool true) ∧ Below w.heap.size w w' := by
  have HX := hQ hx
  have HL := hQ hl
  clear hx hl
  go_enter Tryz.func235, Tryz.ntmps235
  go_wp2_with (fail)
  refine (QO w x HX.out A c B3 HL.out).mono ?_
  rintro e w2 ⟨rfl, hb⟩
  have HB := hQ hb
  have L2 := hQ (Kd.zz HL.out hb)
  clear hb
  go_wp2_with (fail)
  refine (zco w2 A c).mono ?_
  rintro e w3 ⟨rfl, hb⟩
  have HC := hQ (zf HB.out HB.out.size hb)
  clear hb
  go_wp2
  go_ret
  exact ⟨rfl, HC.out⟩
structure WrF (B N : Nat) (x : Ix) (g : Sg) (vs : Nat) (q : Int) (m : Nat) (A1 A2 : Option Addr) (c1 c2 : Nat) (W : World) : Prop where
  h : ym W B N x g
  sp : x.writes = 2000
  P : W.heap[vs]? = some (.cells #[.int .u64 q, .slice A1 m c1, .slice A2 0 c2] 162 (0, 0))
section
variable {B N m : Nat} {x : Ix} {g : Sg} {vs : Nat} {q : Int} {A1 A2 : Option Addr} {c1 c2 : Nat} {W W1 : World}
theorem WrF.below (f : WrF B N x g vs q m A1 A2 c1 c2 W) (hb : Below W.heap.size W W1) : WrF B N x g vs q m A1 A2 c1 c2 W1 := ⟨f.h.below hb, f.sp, zb f.P hb⟩
theorem WrF.s0 (f : WrF B N x g vs q m A1 A2 c1 c2 W) : W.cell? ⟨x.en, 3, none⟩ = some (.int .i64 2000) := by rw [← f.sp]; exact f.h.en.cells.2.2.2.1
theorem WrF.s1 (f : WrF B N x g vs q m A1 A2 c1 c2 W) : W.cell? ⟨vs, 0, none⟩ = some (.int .u64 q) := za f.P 0
theorem WrF.s2 (f : WrF B N x g vs q m A1 A2 c1 c2 W) : W.cell? ⟨vs, 1, none⟩ = some (.slice A1 m c1) := za f.P 1
theorem WrF.s3 (f : WrF B N x g vs q m A1 A2 c1 c2 W) : W.cell? ⟨vs, 2, none⟩ = some (.slice A2 0 c2) := za f.P 2
theorem WrF.ss (f : WrF B N x g vs q m A1 A2 c1 c2 W) : W.cell? ⟨x.en, 3, none⟩ = some (.int .i64 2000) ∧ W.cell? ⟨vs, 0, none⟩ = some (.int .u64 q) ∧ W.cell? ⟨vs, 1, none⟩ = some (.slice A1 m c1) ∧ W.cell? ⟨vs, 2, none⟩ = some (.slice A2 0 c2) := ⟨f.s0, f.s1, f.s2, f.s3⟩
end
theorem Ww (w : World) (B N : Nat) (x : Ix) (g : Sg) (h : ym w B N x g) (hN : N < maxLen) (k : Int) (hk : (Lit.int .i64 k).wf = true) (q : Int) (rs : List S78) (hrs : rs.length ≤ 1000) (hv0 : g.vs k = some ⟨q, rs, []⟩) (hwr : x.writes = 2000) (A : Option Addr) (c B3 : Nat) (y : yg) (hy : qw y) (hl : Kd.R xL 208 w B3 (fun _ => True) (.slice A 1 c) [y]) :
    Calls Tryz.prog 215 #[.pointer (some ⟨x.en, 0, none⟩), .int .i64 k, .slice A 1 c] w fun e w' => e = .returned (.int .i64 0) ∧ ym w' B (N + 1) x (g.put k ⟨q, rs, [y]⟩) ∧ Ch TS (MS x) B w w' := by
  have hu125 := Tryz.underlying125
  have hu162 := Tryz.underlying162
  have HW := hQ h
  have HN := hQ hN
  have HK := hQ hk
  have HRS := hQ hrs
  have HV := hQ hv0
  have HWR := hQ hwr
  have HL := hQ hl
  have HY := hQ hy
  clear h hN hk hrs hv0 hwr hl hy
  go_enter Tryz.func215, Tryz.ntmps215
  go_wp2_with (fail)
  refine (VL w y HY.out A c B3 HL.out).mono ?_
  rintro e w2 ⟨rfl, hb⟩
  have B2 := hQ hb
  have H2 := hQ (HW.out.below hb)
  have L2 := hQ (Kd.zz HL.out hb)
  obtain ⟨v, hl, hv⟩ := H2.out.en.look_ok HK.out
  rw [HV.out] at hl hv
  obtain ⟨A1, c1, A2, c2, rfl, r1, r2⟩ := (show xK w2 B v ⟨q, rs, []⟩ from hv).openw
  have hl2 : (Instr.lookup 123 (.map (some x.me)) (.int .i64 k) true).run Tryz.prog w2 = .ok (.tuple #[.agg #[.int .u64 q, .slice A1 rs.length c1, .slice A2 0 c2], .bool true]) w2 := hl
  obtain ⟨e0, e1, e2, e3, e4⟩ := H2.out.en.cells
  obtain ⟨W3, hW3⟩ : ∃ W3, W3 = (w2.alloc (.cells #[.int .u64 q, .slice A1 rs.length c1, .slice A2 0 c2] 162)).drew := ⟨_, rfl⟩
  have hb3 : Below w2.heap.size w2 W3 := by rw [hW3]; exact ((Below.refl _ _).alloc (Nat.le_refl _) _).trans (zl (Below.refl _ _))
  have hz3 : W3.heap.size = w2.heap.size + 1 := by rw [hW3]; simp
  have B3' := hQ (zf B2.out B2.out.size hb3)
  have F3 := hQ (show WrF B N x g w2.heap.size q rs.length A1 A2 c1 c2 W3 from ⟨H2.out.below hb3, HWR.out, by rw [hW3]; exact zb (zi w2 (.cells #[.int .u64 q, .slice A1 rs.length c1, .slice A2 0 c2] 162 (0, 0))) (zl (Below.refl _ _))⟩)
  have V3 := hQ (show xK W3 B (.agg #[.int .u64 q, .slice A1 rs.length c1, .slice A2 0 c2]) ⟨q, rs, []⟩ from ⟨A1, c1, A2, c2, rfl, Kd.zz r1 hb3, Kd.zz r2 hb3⟩)
  have L3 := hQ (Kd.zz L2.out hb3)
  have hb4 : Below W3.heap.size W3 (W3.alloc (.cells #[.int .u64 0, .slice none 0 0, .slice none 0 0] 162)) := (Below.refl _ _).alloc (Nat.le_refl _) _
  have B4 := hQ (zf B3'.out B3'.out.size hb4)
  have F4 := hQ (F3.out.below hb4)
  have V4 := hQ (V3.out.of_below hb4)
  have L4 := hQ (Kd.zz L3.out hb4)
  have Z4 := hQ (show (W3.alloc (.cells #[.int .u64 0, .slice none 0 0, .slice none 0 0] 162)).heap[w2.heap.size + 1]? = some (.cells #[.int .u64 0, .slice none 0 0, .slice none 0 0] 162 (0, 0)) by rw [← hz3]; exact zi W3 _)
  rw [hW3] at B3' F3 V3 L3 B4 F4 V4 L4 Z4
  clear hb hb3 hb4 hl hv r1 r2 hz3 hW3
  go_wp2_with (fail)
--WALK
  refine sq_ (ds := [11]) #[false, false, false, false, false, false, false, false, false, false, false, false, false] (fun w' => w'.cell? ⟨x.en, 3, none⟩ = some (.int .i64 2000) ∧ w'.cell? ⟨w2.heap.size, 0, none⟩ = some (.int .u64 q) ∧ w'.cell? ⟨w2.heap.size, 1, none⟩ = some (.slice A1 rs.length c1) ∧ w'.cell? ⟨w2.heap.size, 2, none⟩ = some (.slice A2 0 c2)) ⟨F3.out.s0, F3.out.s1, F3.out.s2, F3.out.s3⟩ (fun hHeld => ?_)
  refine pq_ 1 (some 27) ?_
  refine pq_ 2 (some 28) ?_
  refine pq_ 3 (some 29) ?_
  refine pq_ 4 (some 30) ?_
  refine tq_ 0 (some 26) hHeld ?_
  refine tq_ 5 (some 31) hHeld ?_
  refine WZ (σ := Option Addr × Nat × Option Addr × Nat × Nat) 2 #[true, true, true, true, true, true, true, true, true, true, true, false, false] (fun s_ => [(32, (.tuple #[(.agg #[.int .u64 q, .slice s_.1 rs.length s_.2.1, .slice s_.2.2.1 1 s_.2.2.2.1]), .int .i64 0])), (25, (.tuple #[(.agg #[.int .u64 q, .slice s_.1 rs.length s_.2.1, .slice s_.2.2.1 1 s_.2.2.2.1]), .int .i64 0])), (33, (.agg #[.int .u64 q, .slice s_.1 rs.length s_.2.1, .slice s_.2.2.1 1 s_.2.2.2.1])), (34, .int .i64 0), (9, .pointer (some ⟨s_.2.2.2.2, 0, none⟩))]) (fun s_ w' => WrF B N x g w2.heap.size q rs.length A1 A2 c1 c2 w' ∧ xK w' B (.agg #[.int .u64 q, .slice s_.1 rs.length s_.2.1, .slice s_.2.2.1 1 s_.2.2.2.1]) ⟨q, rs, [y]⟩ ∧ Below w.heap.size w w' ∧ w'.heap[s_.2.2.2.2]? = some (.cells #[.int .u64 0, .slice none 0 0, .slice none 0 0] 162 (0, 0)) ∧ w.heap.size ≤ s_.2.2.2.2) ?_ ?_
  rotate_left
  · intro hCont
    refine zaX (i := 6) (j := 10) (Ni := some 32) (Nj := some 9) #[true, true, true, true, true, true, true, false, false, false, false, false, false] #[true, true, true, true, true, true, false, false, false, false, true, false, false] rfl rfl rfl rfl (by kernel_rfl) (by decide) (by decide) (fun K hK => ?_) (fun K hK => ?_)
    · skip
      refine yh Tryz.func236 (by kernel_rfl) rfl #[.agg #[.int .u64 q, .slice A1 rs.length c1, .slice A2 0 c2], .slice A 1 c, .int .i64 2000] (by rfl) rfl rfl (by (try simp only [List.map_toArray, List.map_cons, List.map_nil]); first | done | rfl) ?_
      refine (Xe _ B B3 _ q rs HRS.out V3.out A c y L3.out).mono ?_
      rintro e w5 ⟨v5, rfl, hv5, hb⟩
      obtain ⟨A6, c6, A7, c7, hv0, r6, r7⟩ := hv5
      have hv1 : v5 = .agg #[.int .u64 q, .slice A6 rs.length c6, .slice A7 1 c7] := hv0
      clear hv0
      subst hv1
      refine ⟨_, rfl, ?_⟩
      have F5 := hQ (F3.out.below hb)
      have B5 := hQ (zf B3'.out B3'.out.size hb)
      have V5 := hQ (show xK w5 B (.agg #[.int .u64 q, .slice A6 rs.length c6, .slice A7 1 c7]) ⟨q, rs, [y]⟩ from ⟨A6, c6, A7, c7, rfl, Kd.zU r6 (Nat.le_trans HW.out.lt B3'.out.size), Kd.zU r7 (Nat.le_trans HW.out.lt B3'.out.size)⟩)
      clear hb r6 r7
      refine hK.out _ _ ⟨F5.out.s0, F5.out.s1, F5.out.s2, F5.out.s3⟩ (fun hHeld => ?_)
      clear hK K
      refine nq_ ?_
      refine pq_ 7 (some 25) ?_
      refine pq_ 8 (some 33) ?_
      refine pq_ 9 (some 34) ?_
      refine oq_ 10 (some 9) (fun K hK => ?_)
      refine jZ (w1 := ?_) (v := ?_) (by rfl) rfl ?_ ?_
      rotate_left 2
      · go_simp
        constructor
        · rfl
        · rfl
      have hb6 : Below w5.heap.size w5 (w5.alloc (.cells #[.int .u64 0, .slice none 0 0, .slice none 0 0] 162)) := (Below.refl _ _).alloc (Nat.le_refl _) _
      have F6 := hQ (F5.out.below hb6)
      have B6 := hQ (zf B5.out B5.out.size hb6)
      have V6 := hQ (V5.out.of_below hb6)
      have Z6 := hQ (zi w5 (.cells #[.int .u64 0, .slice none 0 0, .slice none 0 0] 162 (0, 0)))
      clear hb6
      refine hK.out _ _ ⟨F6.out.s0, F6.out.s1, F6.out.s2, F6.out.s3⟩ (fun hHeld => ?_)
      clear hK K
      refine nq_ ?_
      exact kH (by simp only [je, Act.put, List.setIfInBounds_toArray, List.set_cons_zero, List.set_cons_succ]) (hCont (A6, c6, A7, c7, w5.heap.size) _ ⟨F6.out, V6.out, B6.out, Z6.out, B5.out.size⟩)
    · skip
      refine jZ (w1 := ?_) (v := ?_) (by rfl) rfl ?_ ?_
      rotate_left 2
      · go_simp
        constructor
        · rfl
        · rfl
      refine hK.out _ _ ⟨F4.out.s0, F4.out.s1, F4.out.s2, F4.out.s3⟩ (fun hHeld => ?_)
      clear hK K
      refine nq_ ?_
      refine oq_ 6 (some 32) (fun K hK => ?_)
      refine yh Tryz.func236 (by kernel_rfl) rfl #[.agg #[.int .u64 q, .slice A1 rs.length c1, .slice A2 0 c2], .slice A 1 c, .int .i64 2000] (by rfl) rfl rfl (by (try simp only [List.map_toArray, List.map_cons, List.map_nil]); first | done | rfl) ?_
      refine (Xe _ B B3 _ q rs HRS.out V4.out A c y L4.out).mono ?_
      rintro e w5 ⟨v5, rfl, hv5, hb⟩
      obtain ⟨A6, c6, A7, c7, hv0, r6, r7⟩ := hv5
      have hv1 : v5 = .agg #[.int .u64 q, .slice A6 rs.length c6, .slice A7 1 c7] := hv0
      clear hv0
      subst hv1
      refine ⟨_, rfl, ?_⟩
      have F5 := hQ (F4.out.below hb)
      have B5 := hQ (zf B4.out B4.out.size hb)
      have V5 := hQ (show xK w5 B (.agg #[.int .u64 q, .slice A6 rs.length c6, .slice A7 1 c7]) ⟨q, rs, [y]⟩ from ⟨A6, c6, A7, c7, rfl, Kd.zU r6 (Nat.le_trans HW.out.lt B4.out.size), Kd.zU r7 (Nat.le_trans HW.out.lt B4.out.size)⟩)
      have Z5 := hQ (zb Z4.out hb)
      clear hb r6 r7
      refine hK.out _ _ ⟨F5.out.s0, F5.out.s1, F5.out.s2, F5.out.s3⟩ (fun hHeld => ?_)
      clear hK K
      refine nq_ ?_
      refine pq_ 7 (some 25) ?_
      refine pq_ 8 (some 33) ?_
      refine pq_ 9 (some 34) ?_
      exact kH (by simp only [je, Act.put, List.setIfInBounds_toArray, List.set_cons_zero, List.set_cons_succ]) (hCont (A6, c6, A7, c7, w2.heap.size + 1) _ ⟨F5.out, V5.out, B5.out, Z5.out, Nat.le_succ_of_le B2.out.size⟩)
  rintro ⟨A6, c6, A7, c7, g9⟩ w9 ⟨f9, v9, b9, z9, l9⟩
  have hHeld := f9.ss
  have F9 := hQ f9
  have V9 := hQ v9
  have B9 := hQ b9
  have Z9 := hQ z9
  have L9 := hQ l9
  clear f9 v9 b9 z9 l9
  simp only [] at V9 Z9 L9
  have z0 : w9.cell? ⟨g9, 0, none⟩ = some (.int .u64 0) := za Z9.out 0
  have z1 : w9.cell? ⟨g9, 1, none⟩ = some (.slice none 0 0) := za Z9.out 1
  have z2 : w9.cell? ⟨g9, 2, none⟩ = some (.slice none 0 0) := za Z9.out 2
  have j0 : w9.frozen? ⟨g9, 0, none⟩ = false := zh Z9.out 0
  have j1 : w9.frozen? ⟨g9, 1, none⟩ = false := zh Z9.out 1
  have j2 : w9.frozen? ⟨g9, 2, none⟩ = false := zh Z9.out 2
  refine kH (a' := ?_) ?_ ?_
  rotate_left
  · simp only [je, Act.put, List.setIfInBounds_toArray, List.set_cons_zero, List.set_cons_succ]
    rfl
  refine kE (i := 11) (N := none) #[true, true, true, true, true, true, true, true, true, true, true, true, false] rfl rfl (by kernel_rfl) (by decide) (fun K hK => ?_)
  refine jY (w1 := ?_) (by rfl) rfl ?_ ?_
  rotate_left
  · go_simp
    rfl
  refine hK.out _ _ ?_
  clear hK K
  refine pq_ 12 (some 10) ?_
  refine xJ (by kernel_rfl) ?_
  --END
  go_wp2_with (fail)
  have hc := Ch.set3 (B := B) Z9.out (Nat.le_trans HW.out.lt L9.out) (.int .u64 q) (.slice A6 rs.length c6) (.slice A7 1 c7)
  have hv8 := V9.out.ch hc (by decide) (by decide)
  refine (JQ _ B N B x g (F9.out.h.ch162 hc) HN.out k HK.out _ ⟨q, rs, [y]⟩ hv8).mono ?_
  rintro e w10 ⟨rfl, h10, c10⟩
  have H10 := hQ h10
  have C10 := hQ ((HW.out.chb (YT B9.out L9.out (.int .u64 q) (.slice A6 rs.length c6) (.slice A7 1 c7))).trans c10)
  clear hc hv8 h10 c10
  go_wp2
  exact bodyPost_ret (v := .int .i64 0) (by simp [results, Tryz.results215, go_sem]) rfl ⟨rfl, H10.out, C10.out⟩
theorem vE (w : World) (B N : Nat) (x : Ix) (g : Sg) (h : ym w B N x g) (hN : N < maxLen) (hs : kG g.s.ch) (k : Int) (hk : (Lit.int .i64 k).wf = true) (hst : ((g.ses k).getD (0, 0, 0)).1 = 0) (t a b : Int) (ht : 0 ≤ t ∧ t < 4) (ha : 0 ≤ a ∧ a < b ∧ b ≤ 65536) (n : Nat) (hn : (n : Int) = b - a) :
    Calls Tryz.prog 180 #[.pointer (some ⟨x.ss, 0, none⟩), .int .i64 k, .agg #[.int .i64 t, .int .i64 a, .int .i64 b]] w fun e w' => ∃ A c, e = .returned (.tuple #[.slice A n c, .int .i64 0]) ∧ Kd.R (Kd.int .u16) 33 w' w.heap.size (fun _ => True) (.slice A n c) (jK g.s.ch t a g.s.last n) ∧ Below w.heap.size w w' := by
  have hu133 := Tryz.underlying133
  have hu78 := Tryz.underlying78
  have hu191 := Tryz.underlying191
  have hf1 := vL
  have hf2 := jT
  have hb162 := JL
  have hb1 : Below w.heap.size w (w.alloc (.cells #[.int .i64 t, .int .i64 a, .int .i64 b] 78)) := (Below.refl _ _).alloc (Nat.le_refl _) _
  have H1 := hQ (h.below hb1)
  have B1 := hQ hb1
  have X1 := hQ (zi w (.cells #[.int .i64 t, .int .i64 a, .int .i64 b] 78 (0, 0)))
  have HS := hQ hs
  have HK := hQ hk
  have HT := hQ ht
  have HA := hQ ha
  have HNN := hQ hn
  have HST := hQ hst
  clear h hb1 hN hs hk ht ha hn hst
  go_enter Tryz.func180, Tryz.ntmps180
  go_wp2_with (fail)
  refine (jR.calls t a b true _ (right_eq t a b HT.out HA.out)).mono ?_
  rintro e w2 ⟨rfl, hb⟩
  have B2 := hQ (zf B1.out B1.out.size hb)
  have H2 := hQ (H1.out.below hb)
  have X2 := hQ (zb X1.out hb)
  have hl := H2.out.ss.look HK.out
  rw [HST.out] at hl
  obtain ⟨c0, c1, c2, c3⟩ := H2.out.ss.cells
  clear hb
  go_wp2_with (fail)
  refine (Yf w2 B N x.en x.st x.me x.most x.spans x.writes g.nv g.vs H2.out.en).mono ?_
  rintro e w3 ⟨rfl, hb⟩
  have B3 := hQ (zf B2.out B2.out.size hb)
  have H3 := hQ (H2.out.below hb)
  have H4 := hQ (H3.out.below (zl (Below.refl _ _)))
  have X3 := hQ (zb X2.out hb)
  have x0 : w3.cell? ⟨w.heap.size, 0, none⟩ = some (.int .i64 t) := za X3.out 0
  have x1 : w3.cell? ⟨w.heap.size, 1, none⟩ = some (.int .i64 a) := za X3.out 1
  have x2 : w3.cell? ⟨w.heap.size, 2, none⟩ = some (.int .i64 b) := za X3.out 2
  clear hb hl c0 c1 c2 c3
  go_wp2_with (fail)
  go_region_law (first | (go_simp; go_at_call 21; refine (kX _ B N x.st x.mst g.s H4.out.st).mono ?_; rintro e w5 ⟨rfl, hb⟩; have B5 := hQ (zf (B3.out.trans (zl (Below.refl _ _))) (Nat.le_trans B3.out.size (Nat.le_refl _)) hb); have H5 := hQ (H4.out.below hb); have X5 := hQ (zb (zb X3.out (zl (Below.refl _ _))) hb); have y0 : w5.cell? ⟨w.heap.size, 0, none⟩ = some (.int .i64 t) := za X5.out 0; have y1 : w5.cell? ⟨w.heap.size, 1, none⟩ = some (.int .i64 a) := za X5.out 1; have y2 : w5.cell? ⟨w.heap.size, 2, none⟩ = some (.int .i64 b) := za X5.out 2; clear hb) | (go_simp; go_at_call 214; refine (VW w5 B N x.st x.mst g.s H5.out.st HS.out g.s.last none none 0 0 0 t a b HT.out ⟨HA.out.1, Int.le_of_lt HA.out.2.1, HA.out.2.2⟩ n HNN.out).mono ?_; rintro e w6 ⟨A6, c6, rfl, hr6, hb⟩; have R6 := hQ hr6; have B6 := hQ (zf B5.out B5.out.size hb); clear hr6 hb))
  all_goals
    go_wp2
    exact bodyPost_ret (v := .tuple #[.slice A6 n c6, .int .i64 0]) (by simp [results, Tryz.results180, go_sem]) rfl ⟨A6, c6, rfl, Kd.zU R6.out B5.out.size, B6.out⟩
theorem YA (w : World) (B N : Nat) (x : Ix) (g : Sg) (h : ym w B N x g) (hN : N < maxLen) (k : Int) (hk : (Lit.int .i64 k).wf = true) (hst : ((g.ses k).getD (0, 0, 0)).1 = 1) (q : Int) (rs : List S78) (hrs : rs.length ≤ 1000) (hv0 : g.vs k = some ⟨q, rs, []⟩) (hwr : x.writes = 2000) (A : Option Addr) (c B3 : Nat) (y : yg) (hy : qw y) (hl : Kd.R xL 208 w B3 (fun _ => True) (.slice A 1 c) [y]) :
    Calls Tryz.prog 181 #[.pointer (some ⟨x.ss, 0, none⟩), .int .i64 k, .slice A 1 c] w fun e w' => e = .returned (.int .i64 0) ∧ ym w' B (N + 1) x (g.put k ⟨q, rs, [y]⟩) ∧ Ch TS (MS x) B w w' := by
  have hu133 := Tryz.underlying133
  have hu191 := Tryz.underlying191
  have hf1 := vL
  have hf2 := jT
  have hlk := h.ss.look hk
  rw [hst] at hlk
  obtain ⟨c0, c1, c2, c3⟩ := h.ss.cells
  have HW := hQ h
  have HN := hQ hN
  have HK := hQ hk
  have HRS := hQ hrs
  have HV := hQ hv0
  have HWR := hQ hwr
  have HY := hQ hy
  have HL := hQ hl
  clear h hN hk hst hrs hv0 hwr hy hl
  go_enter Tryz.func181, Tryz.ntmps181
  go_wp2_with (fail)
  refine (Ww w B N x g HW.out HN.out k HK.out q rs HRS.out HV.out HWR.out A c B3 y HY.out HL.out).mono ?_
  rintro e w2 ⟨rfl, h2, k2⟩
  have H2 := hQ h2
  have C2 := hQ k2
  clear h2 k2
  go_wp2_with (fail)
  refine (XE w2 x.ss k).mono ?_
  rintro e w3 ⟨rfl, hb⟩
  have H3 := hQ (H2.out.below hb)
  have C3 := hQ (C2.out.trans (H2.out.chb hb))
  clear hb
  go_wp2
  exact bodyPost_ret (v := .int .i64 0) (by simp [results, Tryz.results181, go_sem]) rfl ⟨rfl, H3.out, C3.out⟩
def zbr (B N N' : Nat) (x : Ix) (g g' : Sg) (k a v : Int) : Prop := ∀ (w1 : World) (A : Option Addr) (c B3 : Nat), ym w1 B N x g → Kd.R xL 208 w1 B3 (fun _ => True) (.slice A 1 c) [⟨⟨2, a⟩, v⟩] →
  Calls Tryz.prog 181 #[.pointer (some ⟨x.ss, 0, none⟩), .int .i64 k, .slice A 1 c] w1 fun e w' => e = .returned (.int .i64 0) ∧ ym w' B N' x g' ∧ Ch TS (MS x) B w1 w'
def VK (B N N' : Nat) (x : Ix) (g g' : Sg) (k a b : Int) (n : Nat) (l : List Int) : Prop := ∀ (w1 : World), ym w1 B N x g →
  Calls Tryz.prog 180 #[.pointer (some ⟨x.ss, 0, none⟩), .int .i64 k, .agg #[.int .i64 2, .int .i64 a, .int .i64 b]] w1 fun e w' => ∃ A c, e = .returned (.tuple #[.slice A n c, .int .i64 0]) ∧ Kd.R (Kd.int .u16) 33 w' w1.heap.size (fun _ => True) (.slice A n c) l ∧ ym w' B N' x g' ∧ Ch TS (MS x) B w1 w'
theorem zdb (w : World) (B N N' : Nat) (x : Ix) (g g' : Sg) (h : ym w B N x g) (k a v : Int) (ha : 0 ≤ a ∧ a < 256) (hv : 0 ≤ v ∧ v < 65536) (hW : zbr B N N' x g g' k a v) (P4 : Option Addr) (c4 : Nat) :
    Calls Tryz.prog 144 #[.pointer (some ⟨x.ss, 0, none⟩), .int .i64 k, qF a v, .slice none 0 0, .slice P4 1 c4] w fun e w' => e = .returned (yu 6 0 (.slice none 0 0) a v) ∧ ym w' B N' x g' ∧ Ch TS (MS x) B w w' := by
  have hu41 := Tryz.underlying41
  have hu37 := Tryz.underlying37
  obtain ⟨W1, hW1⟩ : ∃ W1, W1 = (w.alloc (.cells (xS a v) 37)).alloc (.cells yl 41) := ⟨_, rfl⟩
  have B1 := hQ (show Below w.heap.size w W1 by rw [hW1]; exact ((Below.refl _ _).alloc (Nat.le_refl _) _).alloc (by simp) _)
  have X1 := hQ (show W1.heap[w.heap.size]? = some (.cells (xS a v) 37 (0, 0)) by rw [hW1]; exact zg (zi w _) _)
  have Y1 := hQ (show W1.heap[w.heap.size + 1]? = some (.cells yl 41 (0, 0)) by rw [hW1]; exact yS w _ _)
  rw [hW1] at B1 X1 Y1
  have H := hQ h
  have HW := hQ hW
  have HA := hQ ha
  have HV := hQ hv
  have hE := fun (w : World) => vC w a v ha hv
  have hC := fun (w : World) => zbL w a v ha hv
  clear h hW ha hv hW1
  simp only [yu, zW, qF, xS, yl] at B1 X1 Y1 hE hC ⊢
  go_enter Tryz.func144, Tryz.ntmps144
  go_wp2_with (fail)
  refine (hE _).mono ?_
  rintro e w2 ⟨rfl, hb⟩
  have B2 := hQ (zf B1.out B1.out.size hb)
  have X2 := hQ (zb X1.out hb)
  have Y2 := hQ (zb Y1.out hb)
  clear hb
  have B3 := hQ (B2.out.alloc B2.out.size (.cells #[.int .i64 6, .int .i64 0, .slice none 0 0, .slice none 0 0, .int .i64 a, .int .i64 0, .int .u16 v, .int .u16 0, .int .u16 0, .int .i64 0, .int .i64 0, .bool false, .int .i64 0, .slice none 0 0] 41))
  have X3 := hQ (zg X2.out (.cells #[.int .i64 6, .int .i64 0, .slice none 0 0, .slice none 0 0, .int .i64 a, .int .i64 0, .int .u16 v, .int .u16 0, .int .u16 0, .int .i64 0, .int .i64 0, .bool false, .int .i64 0, .slice none 0 0] 41))
  have Y3 := hQ (zg Y2.out (.cells #[.int .i64 6, .int .i64 0, .slice none 0 0, .slice none 0 0, .int .i64 a, .int .i64 0, .int .u16 v, .int .u16 0, .int .u16 0, .int .i64 0, .int .i64 0, .bool false, .int .i64 0, .slice none 0 0] 41))
  have Z3 := hQ (zi w2 (.cells #[.int .i64 6, .int .i64 0, .slice none 0 0, .slice none 0 0, .int .i64 a, .int .i64 0, .int .u16 v, .int .u16 0, .int .u16 0, .int .i64 0, .int .i64 0, .bool false, .int .i64 0, .slice none 0 0] 41))
  have SZ := hQ B2.out.size
  obtain ⟨x0, x1, x2, x3, x4, x5, x6, x7, x8, x9, x10, x11⟩ := zV X3.out
  go_wp2_with (fail)
  refine (hC _).mono ?_
  rintro e w4 ⟨A, c, rfl, hr, hb⟩
  have B4 := hQ (zf B3.out B3.out.size hb)
  have X4 := hQ (zb X3.out hb)
  have Y4 := hQ (zb Y3.out hb)
  have Z4 := hQ (zb Z3.out hb)
  have R4 := hQ hr
  clear hb hr x0 x1 x2 x3 x4 x5 x6 x7 x8 x9 x10 x11 hE hC
  go_wp2_with (fail)
  refine (HW.out _ A c _ (H.out.below B4.out) R4.out).mono ?_
  rintro e w5 ⟨rfl, hs, hc⟩
  have L5 := hQ ((Loc.mk' H.out B4.out Y4.out Z4.out (by omega) SZ.out (by decide) (by decide)).step hs hc)
  have X5 := hQ (hc.cell X4.out (by decide))
  have Y5 := hQ (hc.cell Y4.out (by decide))
  have Z5 := hQ (hc.cell Z4.out (by decide))
  clear hs hc
  obtain ⟨x0, x1, x2, x3, x4, x5, x6, x7, x8, x9, x10, x11⟩ := zV X5.out
  obtain ⟨y0, y1, y2, y3, y4, y5, y6, y7, y8, y9, y10, y11, y12, y13⟩ := yK Y5.out
  obtain ⟨z0, z1, z2, z3, z4, z5, z6, z7, z8, z9, z10, z11, z12, z13⟩ := yK Z5.out
  have fy : ∀ i, w5.frozen? ⟨w.heap.size + 1, i, none⟩ = false := fun i => zh Y5.out i
  go_wp2
  refine bodyPost_ret (v := .agg #[.int .i64 6, .int .i64 0, .slice none 0 0, .slice none 0 0, .int .i64 a, .int .i64 0, .int .u16 v, .int .u16 0, .int .u16 0, .int .i64 0, .int .i64 0, .bool false, .int .i64 0, .slice none 0 0]) ?_ rfl ⟨rfl, ?_⟩
  · simp [results, Tryz.results144, go_sem, hu41, y0, y1, y2, y3, y4, y5, y6, y7, y8, y9, y10, y11, y12, y13]
  · refine And.intro (Loc.slv (w0 := w) (b1 := w.heap.size + 1) (b2 := w2.heap.size) ?_) (Loc.ch (g := g') (N := N') (b1 := w.heap.size + 1) (b2 := w2.heap.size) ?_)
    all_goals (repeat (with_reducible first | exact L5.out | (refine Loc.set ?_ (by first | exact Or.inl rfl | exact Or.inr rfl))))
theorem zc0 (w : World) (B N N' : Nat) (x : Ix) (g g' : Sg) (h : ym w B N x g) (k a b : Int) (n : Nat) (l : List Int) (hl : l.length = n) (ha : 0 ≤ a ∧ a < 256) (hn : 1 ≤ n ∧ n ≤ 16) (hR : VK B N N' x g g' k a b n l) (gr cr : Nat) (hg : w.heap[gr]? = some (.cells #[.int .i64 2, .int .i64 a, .int .i64 b] 78 (0, 0))) :
    Calls Tryz.prog 144 #[.pointer (some ⟨x.ss, 0, none⟩), .int .i64 k, jF a n, .slice (some ⟨gr, 0, none⟩) 1 cr, .slice none 0 0] w fun e w' => ∃ A c, e = .returned (yu 3 0 (.slice A n c) 0 0) ∧ n ≤ c ∧ Kd.F (Kd.int .u16) w' (fun k => w.heap.size ≤ k) A n l ∧ ym w' B N' x g' ∧ Ch TS (MS x) B w w' := by
  have hu41 := Tryz.underlying41
  have hu37 := Tryz.underlying37
  have hu78 := Tryz.underlying78
  obtain ⟨W1, hW1⟩ : ∃ W1, W1 = (w.alloc (.cells (qV a n) 37)).alloc (.cells yl 41) := ⟨_, rfl⟩
  have B1 := hQ (show Below w.heap.size w W1 by rw [hW1]; exact ((Below.refl _ _).alloc (Nat.le_refl _) _).alloc (by simp) _)
  have X1 := hQ (show W1.heap[w.heap.size]? = some (.cells (qV a n) 37 (0, 0)) by rw [hW1]; exact zg (zi w _) _)
  have Y1 := hQ (show W1.heap[w.heap.size + 1]? = some (.cells yl 41 (0, 0)) by rw [hW1]; exact yS w _ _)
  have G1 := hQ (zb hg B1.out)
  rw [hW1] at B1 X1 Y1 G1
  have H := hQ h
  have HR := hQ hR
  have HL := hQ hl
  have HN := hQ hn
  have hE := fun (w : World) => Ja w a n ha (by omega)
  clear h hR ha hn hW1 hg hl
  simp only [yu, zW, jF, qV, yl] at B1 X1 Y1 hE ⊢
  go_enter Tryz.func144, Tryz.ntmps144
  go_wp2_with (fail)
  refine (hE _).mono ?_
  rintro e w2 ⟨rfl, hb⟩
  have B2 := hQ (zf B1.out B1.out.size hb)
  have X2 := hQ (zb X1.out hb)
  have Y2 := hQ (zb Y1.out hb)
  have G2 := hQ (zb G1.out hb)
  clear hb hE
  have B3 := hQ (B2.out.alloc B2.out.size (.cells #[.int .i64 0, .int .i64 0, .slice none 0 0, .slice none 0 0, .int .i64 0, .int .i64 0, .int .u16 0, .int .u16 0, .int .u16 0, .int .i64 0, .int .i64 0, .bool false, .int .i64 0, .slice none 0 0] 41))
  have X3 := hQ (zg X2.out (.cells #[.int .i64 0, .int .i64 0, .slice none 0 0, .slice none 0 0, .int .i64 0, .int .i64 0, .int .u16 0, .int .u16 0, .int .u16 0, .int .i64 0, .int .i64 0, .bool false, .int .i64 0, .slice none 0 0] 41))
  have Y3 := hQ (zg Y2.out (.cells #[.int .i64 0, .int .i64 0, .slice none 0 0, .slice none 0 0, .int .i64 0, .int .i64 0, .int .u16 0, .int .u16 0, .int .u16 0, .int .i64 0, .int .i64 0, .bool false, .int .i64 0, .slice none 0 0] 41))
  have Z3 := hQ (zi w2 (.cells #[.int .i64 0, .int .i64 0, .slice none 0 0, .slice none 0 0, .int .i64 0, .int .i64 0, .int .u16 0, .int .u16 0, .int .u16 0, .int .i64 0, .int .i64 0, .bool false, .int .i64 0, .slice none 0 0] 41))
  have G3 := hQ (zg G2.out (.cells #[.int .i64 0, .int .i64 0, .slice none 0 0, .slice none 0 0, .int .i64 0, .int .i64 0, .int .u16 0, .int .u16 0, .int .u16 0, .int .i64 0, .int .i64 0, .bool false, .int .i64 0, .slice none 0 0] 41))
  have SZ := hQ B2.out.size
  obtain ⟨x0, x1, x2, x3, x4, x5, x6, x7, x8, x9, x10, x11⟩ := zV X3.out
  have i0 : (w2.alloc (.cells #[.int .i64 0, .int .i64 0, .slice none 0 0, .slice none 0 0, .int .i64 0, .int .i64 0, .int .u16 0, .int .u16 0, .int .u16 0, .int .i64 0, .int .i64 0, .bool false, .int .i64 0, .slice none 0 0] 41)).cell? ⟨gr, 0, none⟩ = some (.int .i64 2) := za G3.out 0
  have i1 : (w2.alloc (.cells #[.int .i64 0, .int .i64 0, .slice none 0 0, .slice none 0 0, .int .i64 0, .int .i64 0, .int .u16 0, .int .u16 0, .int .u16 0, .int .i64 0, .int .i64 0, .bool false, .int .i64 0, .slice none 0 0] 41)).cell? ⟨gr, 1, none⟩ = some (.int .i64 a) := za G3.out 1
  have i2 : (w2.alloc (.cells #[.int .i64 0, .int .i64 0, .slice none 0 0, .slice none 0 0, .int .i64 0, .int .i64 0, .int .u16 0, .int .u16 0, .int .u16 0, .int .i64 0, .int .i64 0, .bool false, .int .i64 0, .slice none 0 0] 41)).cell? ⟨gr, 2, none⟩ = some (.int .i64 b) := za G3.out 2
  go_wp2_with (fail)
  refine (HR.out _ (H.out.below B3.out)).mono ?_
  rintro e w4 ⟨A, c, rfl, hr, hs, hc⟩
  have L4 := hQ ((Loc.mk' H.out B3.out Y3.out Z3.out (by omega) SZ.out (by decide) (by decide)).step hs hc)
  have X4 := hQ (hc.cell X3.out (by decide))
  have Y4 := hQ (hc.cell Y3.out (by decide))
  have Z4 := hQ (hc.cell Z3.out (by decide))
  have R4 := hQ (Kd.zB hr)
  clear hs hc hr x0 x1 x2 x3 x4 x5 x6 x7 x8 x9 x10 x11 i0 i1 i2
  obtain ⟨x0, x1, x2, x3, x4, x5, x6, x7, x8, x9, x10, x11⟩ := zV X4.out
  go_wp2_with (fail)
  refine (JY w4 A c l n HL.out (by have := R4.out.2.2; rwa [HL.out] at this) R4.out.2.1 (by have := HN.out; omega)).mono ?_
  rintro e w5 ⟨A5, c5, rfl, hC5, hc5, hb⟩
  have L5 := hQ (L4.out.below hb)
  have X5 := hQ (zb X4.out hb)
  have Y5 := hQ (zb Y4.out hb)
  have Z5 := hQ (zb Z4.out hb)
  have F5 := hQ hC5
  have C5 := hQ hc5
  have S1 := hQ (zF Y4.out)
  have S2 := hQ (zF Z4.out)
  simp only [yu, zW]
  clear hb hC5 hc5 x0 x1 x2 x3 x4 x5 x6 x7 x8 x9 x10 x11
  obtain ⟨y0, y1, y2, y3, y4, y5, y6, y7, y8, y9, y10, y11, y12, y13⟩ := yK Y5.out
  obtain ⟨z0, z1, z2, z3, z4, z5, z6, z7, z8, z9, z10, z11, z12, z13⟩ := yK Z5.out
  have fy : ∀ i, w5.frozen? ⟨w.heap.size + 1, i, none⟩ = false := fun i => zh Y5.out i
  have fz : ∀ i, w5.frozen? ⟨w2.heap.size, i, none⟩ = false := fun i => zh Z5.out i
  have hne : w2.heap.size ≠ w.heap.size + 1 := by have := zF Y2.out; omega
  go_wp2
  refine bodyPost_ret (v := .agg #[.int .i64 3, .int .i64 0, .slice none 0 0, .slice A5 n c5, .int .i64 0, .int .i64 0, .int .u16 0, .int .u16 0, .int .u16 0, .int .i64 0, .int .i64 0, .bool false, .int .i64 0, .slice none 0 0]) ?_ rfl ⟨A5, c5, rfl, C5.out, ?_, ?_⟩
  · simp [results, Tryz.results144, go_sem, hu41, y0, y1, y2, y3, y4, y5, y6, y7, y8, y9, y10, y11, y12, y13]
  · have s1 := S1.out
    refine Kd.qU (ok := fun k => w4.heap.size ≤ k) ?_ (fun k hk => by omega)
    have s2 := S2.out
    repeat (with_reducible first | exact F5.out | (refine kY ?_ (by omega)))
  · refine And.intro (Loc.slv (w0 := w) (b1 := w.heap.size + 1) (b2 := w2.heap.size) ?_) (Loc.ch (g := g') (N := N') (b1 := w.heap.size + 1) (b2 := w2.heap.size) ?_)
    all_goals (repeat (with_reducible first | exact L5.out | (refine Loc.set ?_ (by first | exact Or.inl rfl | exact Or.inr rfl))))
end Go.Proofs.YtlalbohhopmpdaaGreat.Top
