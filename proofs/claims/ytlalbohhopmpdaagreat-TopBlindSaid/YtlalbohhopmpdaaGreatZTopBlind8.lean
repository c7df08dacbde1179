/- Words and walks for TopBlind (made of the session's own texts; each part by itself). -/
import Derived.Deep.DeepCutAuto
import Derived.Deep.DeepMust
import Derived.Deep.RegionLaw
import Derived.Test.YtlalbohhopmpdaaGreatZTopBlind6
import Derived.Test.YtlalbohhopmpdaaGreatZTopBlind7
set_option maxRecDepth 100000
set_option maxHeartbeats 8000000
set_option linter.unusedVariables false
set_option linter.unusedSimpArgs false
namespace Go.Proofs.YtlalbohhopmpdaaGreat.Top
open Go.RowKit Go.Proofs.YtlalbohhopmpdaaGreat.PTop Go.YW.PrintWords Go.YW.PrintLast Go.YW.PrintMore Go.Proofs.YtlalbohhopmpdaaGreat.Num
attribute [local go_sem] zk zo
theorem VO (w : World) : (zeroValue 159).run Tryz.prog w = .ok (.slice none 0 0) w := by kernel_rfl
theorem Zg.get {w : World} {B : Nat} {F : Int × Int → Option Value} {ch : Int × Int → List xU} (h : Zg w B F ch) (k : Int × Int) : Kd.R vo 210 w B (fun _ => True) ((F k).getD (.slice none 0 0)) (ch k) := by
  cases e : F k with
  | none =>
    rw [h.1 k e]
    exact Kd.ql _ _ _ _ _
  | some v => exact h.2.1 k v e
theorem xg.look {w : World} {B N st mst : Nat} {s : SS} (h : xg w B N st mst s) {t a : Int} (hk : (Lit.int .i64 t).wf = true ∧ (Lit.int .i64 a).wf = true) :
    ∃ A c, (Instr.lookup 116 (.map (some mst)) (.agg #[.int .i64 t, .int .i64 a]) false).run Tryz.prog w = .ok (.slice A (s.ch (t, a)).length c) w ∧ Kd.C vo w A (s.ch (t, a)).length (s.ch (t, a)) ∧ (s.ch (t, a)).length ≤ c := by
  obtain ⟨n, F, hm, hr⟩ := h.map
  have hl := hm.look Tryz.underlying116 (VO w) (x := (t, a)) hk
  have hg := hr.get (t, a)
  obtain ⟨A, c, e⟩ := Kd.yc hg
  rw [e] at hl hg
  exact ⟨A, c, hl, (Kd.zB hg).2.2, (Kd.zB hg).2.1⟩
def kG (ch : Int × Int → List xU) : Prop := ∀ k, rises (ch k) ∧ (ch k).length ≤ 1000000
theorem Ko (w : World) (B N st mst : Nat) (s : SS) (h : xg w B N st mst s) (hs : kG s.ch) (t a q : Int) (hk : (Lit.int .i64 t).wf = true ∧ (Lit.int .i64 a).wf = true) :
    Calls Tryz.prog 234 #[.pointer (some ⟨st, 0, none⟩), .agg #[.int .i64 t, .int .i64 a], .int .u64 q] w fun e w' => e = .returned (.int .u16 (WH (s.ch (t, a)) q)) ∧ Below w.heap.size w w' := by
  have hu118 := Tryz.underlying118
  have hu158 := Tryz.underlying158
  have hb1 : Below w.heap.size w (w.alloc (.cells #[.int .i64 t, .int .i64 a] 158)) := (Below.refl _ _).alloc (Nat.le_refl _) _
  have H1 := hQ (h.below hb1)
  have H2 := hQ (H1.out.below (zl (Below.refl _ _)))
  have HB := hQ (hb1.trans (zl (Below.refl _ _)))
  obtain ⟨A, c, hl, hC, hc⟩ := H2.out.look hk
  obtain ⟨c0, c1, c2, c3⟩ := H1.out.cells
  have HB0 := hQ hb1
  have HC := hQ hC
  have HL := hQ hc
  have HA := hQ (at_eq (s.ch (t, a)) q (hs (t, a)).2 (hs (t, a)).1 (k := 1000001) (Nat.le_refl _))
  clear h hs hb1 hC hc hk
  go_enter Tryz.func234, Tryz.ntmps234
  go_wp2_with (fail)
  go_region_law (first | (go_simp; go_at_call 245; refine (vD.calls 1000001 A c (s.ch (t, a)) q _ _ HC.out HL.out HA.out).mono ?_; rintro e w2 ⟨rfl, nd, rfl⟩))
  all_goals
    go_wp2
    go_ret
    exact ⟨rfl, zq HB0.out _⟩
theorem Qn (w : World) (A : Option Addr) (c : Nat) (l : List xU) (h : Kd.C vo w A l.length l) (hc : l.length ≤ c) (hl : l.length ≤ 1000000) :
    Calls Tryz.prog 259 #[.slice A l.length c] w fun e w' => e = .returned (.int .u64 (newest l)) ∧ Below w.heap.size w w' := by
  have hu159 := Tryz.underlying159
  have hu210 := Tryz.underlying210
  by_cases h0 : l.length = 0
  · obtain rfl := List.length_eq_zero_iff.1 h0
    go_enter Tryz.func259, Tryz.ntmps259
    go_wp2
    go_ret
    exact ⟨rfl, Below.refl _ _⟩
  · obtain ⟨ad, e1, hx0, hx1⟩ := YC h ((l.length : Int) - 1) (by omega) (by omega)
    subst e1
    have hn : newest l = (qI l ((l.length : Int) - 1)).f0 := by
      unfold newest
      rw [show (l.length : Int) - 1 = ((l.length - 1 : Nat) : Int) by omega, zaK l (l.length - 1) (by omega), List.getLast?_eq_getElem?, List.getElem?_eq_getElem (by omega)]
      rfl
    obtain ⟨m, hm⟩ : ∃ m : Nat, m = l.length := ⟨_, rfl⟩
    rw [← hm] at hx0 hx1 hn hl h0 ⊢
    rw [show ((m : Int) - 1).toNat = m - 1 by omega] at hx0 hx1
    have p1 : (1 ≤ m) = True := eq_true (by omega)
    have p2 : (0 < m) = True := eq_true (by omega)
    have p3 : (1 ≤ (m : Int)) = True := eq_true (by omega)
    have p0 : (0 ≤ (m : Int) - 1) = True := eq_true (by omega)
    have q0 : ((m : Int) - 1 < (m : Int)) = True := eq_true (by omega)
    have d0 : ((m : Int) == 0) = false := by simp; omega
    have hw : wrap64 ((m : Int) - 1) = (m : Int) - 1 := zu (by omega) (by omega)
    have HN := hQ hn
    clear h hc hl h0 hn hm
    go_enter Tryz.func259, Tryz.ntmps259
    go_wp2
    go_ret
    exact ⟨by rw [HN.out]; rfl, Below.refl _ _⟩
def qw (x : yg) : Prop := x.f0.f0 = 2 ∧ 0 ≤ x.f0.f1 ∧ x.f0.f1 < 65536
def qD (l : List yg) : Prop := (∀ x ∈ l, qw x) ∧ l.Pairwise (fun a b => a.f0.f1 < b.f0.f1)
theorem zdW (w : World) : (zeroValue 4).run Tryz.prog w = .ok (.bool false) w := by kernel_rfl
def kOf (x : yg) : Int × Int := (x.f0.f0, x.f0.f1)
theorem Qx (x : yg) (h : qw x) : zah.dom (kOf x) := by
  obtain ⟨h0, h1, h2⟩ := h
  constructor
  · show (Lit.int .i64 x.f0.f0).wf = true
    rw [h0]
    decide
  · show (Lit.int .i64 x.f0.f1).wf = true
    exact WalkArith.wf_i64 (by omega)
theorem QJ (w : World) (B N st mst : Nat) (s : SS) (h : xg w B N st mst s) (hs : kG s.ch) (t a : Int) (hk : (Lit.int .i64 t).wf = true ∧ (Lit.int .i64 a).wf = true) :
    Calls Tryz.prog 256 #[.pointer (some ⟨st, 0, none⟩), .agg #[.int .i64 t, .int .i64 a]] w fun e w' => e = .returned (.int .u64 (newest (s.ch (t, a)))) ∧ Below w.heap.size w w' := by
  have hu118 := Tryz.underlying118
  have hu158 := Tryz.underlying158
  have hb1 : Below w.heap.size w (w.alloc (.cells #[.int .i64 t, .int .i64 a] 158)) := (Below.refl _ _).alloc (Nat.le_refl _) _
  have H1 := hQ (h.below hb1)
  have H2 := hQ (H1.out.below (zl (Below.refl _ _)))
  obtain ⟨A, c, hl, hC, hc⟩ := H2.out.look hk
  obtain ⟨c0, c1, c2, c3⟩ := H1.out.cells
  have HB0 := hQ (hb1.trans (zl (Below.refl _ _)))
  have HC := hQ hC
  have HL := hQ hc
  have HS := hQ (hs (t, a)).2
  clear h hs hb1 hC hc hk
  go_enter Tryz.func256, Tryz.ntmps256
  go_wp2_with (fail)
  go_region_law (first | (go_simp; go_at_call 259; refine (Qn _ A c (s.ch (t, a)) HC.out HL.out HS.out).mono ?_; rintro e w2 ⟨rfl, hb⟩; have HB2 := hQ (zf HB0.out HB0.out.size hb); clear hb))
  all_goals
    go_wp2
    go_ret
    exact ⟨rfl, HB2.out⟩
theorem Zd (l : List yg) (i : Nat) (h : i < l.length) : qy l (i : Int) = l[i] := by
  unfold qy
  rw [Int.toNat_natCast, List.getD_eq_getElem?_getD, List.getElem?_eq_getElem h, Option.getD_some]
def zdR (wx : World) (b : Nat) (l : List yg) (i : Nat) : Prop := ∃ N c F, N ≤ i ∧ qa zah wx b N c F ∧ ∀ k (h : k < l.length), i ≤ k → F (kOf l[k]) = none
theorem zb8 {l : List yg} (ho : qD l) {i k : Nat} (hi : i < l.length) (hk : k < l.length) (h : i < k) : kOf l[k] ≠ kOf l[i] := fun e => by
  have h1 := List.pairwise_iff_getElem.1 ho.2 i k hi hk h
  have h2 : l[k].f0.f1 = l[i].f0.f1 := congrArg Prod.snd e
  omega
theorem zcX (w : World) (A : Option Addr) (c : Nat) (l : List yg) (hC : Kd.C xL w A l.length l) (hc : l.length ≤ c) (hl : l.length ≤ 100000) (ho : qD l) :
    Calls Tryz.prog 114 #[.slice A l.length c] w fun e w' => e = .returned (.bool (decide (0 < l.length))) ∧ Below w.heap.size w w' := by
  have hu155 := Tryz.underlying155
  have hu208 := Tryz.underlying208
  have hu158 := Tryz.underlying158
  have hmm : ∀ (n : Int) (W : World), (Instr.makeMap 245 (some (.int .i64 n))).run Tryz.prog W = .ok (.map (some W.heap.size)) (W.alloc (.map #[] 0)) := fun n W => by simp [Instr.makeMap, go_sem, Tryz.underlying245]
  have HC := hQ hC
  have HL := hQ hl
  have HO := hQ ho
  clear hC hc hl ho
  go_enter Tryz.func114, Tryz.ntmps114
  go_wp2_with (fail)
  go_loopg [11] l.length (fun g_ v11 wx => ∃ j : Int, 0 ≤ j ∧ j + (g_ : Int) = (l.length : Int) ∧ v11 = .int .i64 j ∧ ze (zdR wx w.heap.size l j.toNat) ∧ ze (Below w.heap.size w wx))
  case atStart => exact ⟨0, by omega, by omega, rfl, ⟨⟨0, 0, _, Nat.le_refl _, qa.made zah w, fun _ _ _ => rfl⟩⟩, ⟨(Below.refl _ _).alloc (Nat.le_refl _) _⟩⟩
  case round =>
    obtain ⟨j, hj0, hj, rfl, HS, HB⟩ := hrel
    cases gk with
    | zero =>
      have hd : decide (j < (l.length : Int)) = false := decide_eq_false (by omega)
      go_wp2
      go_ret
      exact ⟨rfl, HB.out⟩
    | succ g1 =>
      have hil : j.toNat < l.length := by omega
      have hd : decide (j < (l.length : Int)) = true := decide_eq_true (by omega)
      obtain ⟨ad, e, hx0, hx1, hx2⟩ := kz (Kd.zx HC.out HB.out) j (by omega) (by omega)
      cases e
      have p0 : (0 ≤ j) = True := eq_true (by omega)
      have q0 : (j < (l.length : Int)) = True := eq_true (by omega)
      have hxe : qy l j = l[j.toNat] := by rw [← Zd l j.toNat hil, Int.toNat_of_nonneg hj0]
      obtain ⟨x, hx⟩ : ∃ x, x = l[j.toNat] := ⟨_, rfl⟩
      rw [hxe, ← hx] at hx0 hx1 hx2
      have hok : qw x := hx ▸ HO.out.1 _ (List.getElem_mem hil)
      have HX := hQ (show l[j.toNat]? = some x by rw [List.getElem?_eq_getElem hil, hx])
      have HOK := hQ hok
      have hb1 : Below wr.heap.size wr (wr.alloc (.cells #[.int .i64 x.f0.f0, .int .i64 x.f0.f1, .int .u16 x.f1] 208)) := (Below.refl _ _).alloc (Nat.le_refl _) _
      obtain ⟨N, n, F, hN, hm, hF⟩ := HS.out
      have hm1 := hm.below hb1
      have hl1 := hm1.look Tryz.underlying245 (zdW _) (x := kOf x) (Qx x hok)
      have hF0 := hF j.toNat hil (Nat.le_refl _)
      rw [← hx] at hF0
      rw [hF0] at hl1
      have hl2 : (Instr.lookup 245 (.map (some w.heap.size)) (.agg #[.int .i64 x.f0.f0, .int .i64 x.f0.f1]) false).run Tryz.prog (wr.alloc (.cells #[.int .i64 x.f0.f0, .int .i64 x.f0.f1, .int .u16 x.f1] 208)) = .ok (.bool false) (wr.alloc (.cells #[.int .i64 x.f0.f0, .int .i64 x.f0.f1, .int .u16 x.f1] 208)) := hl1
      have HM := hQ hm1
      have HF := hQ hF
      have HNI := hQ hN
      have HB1 := hQ (zf HB.out HB.out.size hb1)
      have HJ := hQ hj
      have HJ0 := hQ hj0
      clear hb1 hm hm1 hl1 hF hF0 hN hx hok hxe hil hj hj0
      go_wp2_with (fail)
      refine (zax _ x.f0.f0 x.f0.f1 x.f1 HOK.out).mono ?_
      rintro e w2 ⟨rfl, hb⟩
      have HB2 := hQ (zf HB1.out HB1.out.size hb)
      have XB := hQ (zb (zi wr (.cells #[.int .i64 x.f0.f0, .int .i64 x.f0.f1, .int .u16 x.f1] 208 (0, 0))) hb)
      have hm2 := HM.out.below hb
      obtain ⟨w3, hrun, hm3, hg3⟩ := hm2.put Tryz.underlying245 (by have := HNI.out; have := HL.out; have := HJ.out; unfold maxLen; omega) (x := kOf x) (Qx x HOK.out) (.bool true)
      have hr2 : (Instr.mapUpdate 245 (.map (some w.heap.size)) (.agg #[.int .i64 x.f0.f0, .int .i64 x.f0.f1]) (.bool true)).run Tryz.prog w2 = .ok () w3 := hrun
      obtain ⟨r0, r1, r2⟩ : w2.cell? ⟨wr.heap.size, 0, none⟩ = some (.int .i64 x.f0.f0) ∧ w2.cell? ⟨wr.heap.size, 1, none⟩ = some (.int .i64 x.f0.f1) ∧ w2.cell? ⟨wr.heap.size, 2, none⟩ = some (.int .u16 x.f1) := ⟨za XB.out 0, za XB.out 1, za XB.out 2⟩
      have HM3 := hQ hm3
      have HG3 := hQ hg3
      clear hb hm2 hrun hm3 hg3
      go_wp2
      go_roundg g1
      case measure => have := HJ.out; omega
      case rel =>
        have hj := HJ.out
        have hj0 := HJ0.out
        have hl := HL.out
        have hil : j.toNat < l.length := by omega
        have hx : l[j.toNat] = x := Option.some.inj ((List.getElem?_eq_getElem hil).symm.trans HX.out)
        refine ⟨j + 1, by omega, by omega, by first | rfl | (rw [show wrap64 (j + 1) = j + 1 from by unfold wrap64; omega]), ⟨⟨_, _, _, ?_, HM3.out, fun k hk hik => ?_⟩⟩, ⟨HB2.out.trans ⟨HG3.out.os, HG3.out.tape, HG3.out.output, HG3.out.size, fun i hi => HG3.out.block i (by have := HB2.out.size; omega) (fun e => by injection e; omega)⟩⟩⟩
        · have := HNI.out; omega
        · have hne := zb8 HO.out hil hk (by omega)
          rw [hx] at hne
          rw [if_neg hne]
          exact HF.out k hk (by omega)
end Go.Proofs.YtlalbohhopmpdaaGreat.Top
