/- Words and walks for TopSkew (made of the session's own texts; each part by itself). -/
import Derived.Deep.DeepCutAuto
import Derived.Deep.DeepMust
import Derived.Deep.RegionLaw
import Derived.Test.YtlalbohhopmpdaaGreatZTopSkew11
set_option maxRecDepth 100000
set_option maxHeartbeats 8000000
set_option linter.unusedVariables false
set_option linter.unusedSimpArgs false
namespace Go.Proofs.YtlalbohhopmpdaaGreat.Top
open Go.RowKit Go.Proofs.YtlalbohhopmpdaaGreat.PTop Go.YW.PrintWords Go.YW.PrintLast Go.YW.PrintMore Go.Proofs.YtlalbohhopmpdaaGreat.Num
attribute [local go_sem] zm zu
theorem KM {α : Type} (d : Kd α) {W : World} (base e : Nat) {xs : List α} {inner : List Value} (hrep : yK (d.M W base (fun _ => False)) d.sz xs inner) (hbase : base ≤ W.heap.size) (hm : xs.length ≤ 1000) :
    d.R e (W.alloc (.cells inner.toArray e)) base (fun _ => True) (.slice (some ⟨W.heap.size, 0, none⟩) xs.length xs.length) xs := by
  refine ⟨fun k hk => trivial, inner, ?_, ?_⟩
  · have h2 := World.ownsRow_lit (base := base) (e := e) (size := d.sz) W inner.toArray xs.length hbase (by unfold maxLen; omega) (by simpa using hrep.1)
    simpa using h2
  · exact hrep.imp_ (fun p c hp => d.M_mono (fun k hk => hk.1.elim) (Kd.Vq (d.M_bound hp) (zn (Below.refl _ _) _)))
structure CfS (w0 : World) (g : Nat) (cs : Array Value) (w : World) : Prop where
  X : w.heap[g]? = some (.cells cs 30 (0, 0))
  B : Below w0.heap.size w0 w
  ge : w0.heap.size ≤ g
theorem CfS.below {w0 w w1 : World} {g : Nat} {cs : Array Value} (h : CfS w0 g cs w) (hb : Below w.heap.size w w1) : CfS w0 g cs w1 := ⟨zb h.X hb, ze h.B h.B.size hb, h.ge⟩
theorem CfS.set {w0 w : World} {g : Nat} {cs : Array Value} (h : CfS w0 g cs w) (i : Nat) (v : Value) : CfS w0 g (cs.setIfInBounds i v) (w.setCell ⟨g, i, none⟩ v) := ⟨xD h.X i v, h.B.setCell h.ge v, h.ge⟩
theorem CfS.c {w0 w : World} {g : Nat} {v0 v1 v2 v3 v4 v5 v6 v7 v8 v9 v10 v11 v12 : Value} (h : CfS w0 g #[v0, v1, v2, v3, v4, v5, v6, v7, v8, v9, v10, v11, v12] w) : w.cell? ⟨g, 0, none⟩ = some v0 ∧ w.cell? ⟨g, 1, none⟩ = some v1 ∧ w.cell? ⟨g, 2, none⟩ = some v2 ∧ w.cell? ⟨g, 3, none⟩ = some v3 ∧ w.cell? ⟨g, 4, none⟩ = some v4 ∧ w.cell? ⟨g, 5, none⟩ = some v5 ∧ w.cell? ⟨g, 6, none⟩ = some v6 ∧ w.cell? ⟨g, 7, none⟩ = some v7 ∧ w.cell? ⟨g, 8, none⟩ = some v8 ∧ w.cell? ⟨g, 9, none⟩ = some v9 ∧ w.cell? ⟨g, 10, none⟩ = some v10 ∧ w.cell? ⟨g, 11, none⟩ = some v11 ∧ w.cell? ⟨g, 12, none⟩ = some v12 := ⟨za h.X 0, za h.X 1, za h.X 2, za h.X 3, za h.X 4, za h.X 5, za h.X 6, za h.X 7, za h.X 8, za h.X 9, za h.X 10, za h.X 11, za h.X 12⟩
theorem QH {α : Type} {d : Kd α} {e : Nat} {w : World} {B : Nat} {ok : Nat → Prop} {v : Value} {xs : List α} {g t : Nat} {cs : Array Value} (h : Kd.R d e w B ok v xs) (hg : w.heap[g]? = some (.cells cs t (0, 0))) (ht : t ≠ e) : some g ≠ v.ownBlock := fun he => by
  obtain ⟨_, cs', e2⟩ := ZG h g he.symm
  rw [hg] at e2
  injection e2 with e2
  injection e2 with _ e2
  exact ht e2
theorem zbM (w : World) : Calls Tryz.prog 40 #[] w fun e w' => ∃ A n c G, e = .returned (.agg #[.slice A n c, .slice none 0 0, .int .i64 60000, .int .i64 100, .int .i64 32, .int .i64 8, .int .i64 10000, .int .i64 100, .int .i64 500, .int .i64 1024, .int .i64 1024, .int .u64 0, .slice (some ⟨G, 0, none⟩) 3 3]) ∧ Kd.R k84 84 w' w.heap.size (fun _ => True) (.slice (some ⟨G, 0, none⟩) 3 3) ql ∧ Below w.heap.size w w' := by
  have hu30 := Tryz.underlying30
  have hu78 := Tryz.underlying78
  have hu84 := Tryz.underlying84
  have hb1 : Below w.heap.size w ((w.alloc (.cells #[.slice none 0 0, .slice none 0 0, .int .i64 0, .int .i64 0, .int .i64 0, .int .i64 0, .int .i64 0, .int .i64 0, .int .i64 0, .int .i64 0, .int .i64 0, .int .u64 0, .slice none 0 0] 30)).alloc (.cells #[.slice none 0 0, .slice none 0 0, .int .i64 60000, .int .i64 100, .int .i64 32, .int .i64 8, .int .i64 10000, .int .i64 100, .int .i64 500, .int .i64 1024, .int .i64 1024, .int .u64 0, .slice none 0 0] 30)) := ((Below.refl _ _).alloc (Nat.le_refl _) _).alloc (by simp) _
  have S0 := hQ (show CfS w (w.heap.size + 1) #[.slice none 0 0, .slice none 0 0, .int .i64 60000, .int .i64 100, .int .i64 32, .int .i64 8, .int .i64 10000, .int .i64 100, .int .i64 500, .int .i64 1024, .int .i64 1024, .int .u64 0, .slice none 0 0] ((w.alloc (.cells #[.slice none 0 0, .slice none 0 0, .int .i64 0, .int .i64 0, .int .i64 0, .int .i64 0, .int .i64 0, .int .i64 0, .int .i64 0, .int .i64 0, .int .i64 0, .int .u64 0, .slice none 0 0] 30)).alloc (.cells #[.slice none 0 0, .slice none 0 0, .int .i64 60000, .int .i64 100, .int .i64 32, .int .i64 8, .int .i64 10000, .int .i64 100, .int .i64 500, .int .i64 1024, .int .i64 1024, .int .u64 0, .slice none 0 0] 30)) from ⟨vB w _ _, hb1, Nat.le_succ _⟩)
  have T0 := hQ (show CfS w w.heap.size #[.slice none 0 0, .slice none 0 0, .int .i64 0, .int .i64 0, .int .i64 0, .int .i64 0, .int .i64 0, .int .i64 0, .int .i64 0, .int .i64 0, .int .i64 0, .int .u64 0, .slice none 0 0] ((w.alloc (.cells #[.slice none 0 0, .slice none 0 0, .int .i64 0, .int .i64 0, .int .i64 0, .int .i64 0, .int .i64 0, .int .i64 0, .int .i64 0, .int .i64 0, .int .i64 0, .int .u64 0, .slice none 0 0] 30)).alloc (.cells #[.slice none 0 0, .slice none 0 0, .int .i64 60000, .int .i64 100, .int .i64 32, .int .i64 8, .int .i64 10000, .int .i64 100, .int .i64 500, .int .i64 1024, .int .i64 1024, .int .u64 0, .slice none 0 0] 30)) from ⟨zg (zi w _) _, hb1, Nat.le_refl _⟩)
  clear hb1
  go_enter Tryz.func40, Tryz.ntmps40
  go_wp2_with (fail)
  go_loopg [2] 4 (fun g_ v2 wx => ∃ (j : Int) (A : Option Addr) (n c : Nat) (l : List S78), 0 ≤ j ∧ (g_ : Int) = 4 - j ∧ v2 = .int .i64 j ∧ (n : Int) = j ∧ zf (l.length = n) ∧ zf (CfS w (w.heap.size + 1) #[.slice A n c, .slice none 0 0, .int .i64 60000, .int .i64 100, .int .i64 32, .int .i64 8, .int .i64 10000, .int .i64 100, .int .i64 500, .int .i64 1024, .int .i64 1024, .int .u64 0, .slice none 0 0] wx) ∧ zf (CfS w w.heap.size #[.slice none 0 0, .slice none 0 0, .int .i64 0, .int .i64 0, .int .i64 0, .int .i64 0, .int .i64 0, .int .i64 0, .int .i64 0, .int .i64 0, .int .i64 0, .int .u64 0, .slice none 0 0] wx) ∧ zf (Kd.R k78 78 wx w.heap.size (fun _ => True) (.slice A n c) l))
  case atStart => exact ⟨0, none, 0, 0, [], by omega, by omega, rfl, rfl, ⟨rfl⟩, ⟨S0.out⟩, ⟨T0.out⟩, ⟨Kd.xM _ _ _ _ _⟩⟩
  case round =>
    obtain ⟨j, A, n, c, l, hj0, hg, rfl, hl, HL, HS, HT, HR⟩ := hrel
    obtain ⟨x0, x1, x2, x3, x4, x5, x6, x7, x8, x9, x10, x11, x12⟩ := HS.out.c
    have f0 := zh HS.out.X 0
    by_cases he : j < 4
    · have hd : decide (j < 4) = true := dT he
      have HE := hQ (show 0 ≤ j ∧ j < 4 ∧ (gk : Int) = 4 - j ∧ (n : Int) = j from ⟨hj0, he, hg, hl⟩)
      clear hj0 he hg hl
      have y0 : (wr.alloc (.cells #[.int .i64 j, .int .i64 0, .int .i64 1000] 78)).cell? ⟨w.heap.size + 1, 0, none⟩ = some (.slice A n c) := za (zg HS.out.X _) 0
      go_wp2_with (first | ((with_reducible refine zZ (b := .append) (xs := #[.tmp 9, .tmp 12]) (ts := #[25, 25]) rfl ?_); go_must (refine Kd.kE k78 (w0 := w) w.heap.size rfl (.tmp 9) (.tmp 12) 25 78 (.agg #[(.int .i64 0), (.int .i64 0), (.int .i64 0)]) 24 rfl Tryz.underlying25 qN rfl (by decide) (by omega) (.slice A n c) l (⟨j, 0, 1000⟩ : S78) [.int .i64 j, .int .i64 0, .int .i64 1000] (fun _ => True) (fun _ => False) rfl rfl (qC _ _ _ _) (fun _ hk => hk.elim) (fun _ _ => trivial) HR.out HS.out.B HS.out.B.size (by have := HE.out; have := HL.out; omega) ?_; intro v3 w3 ho hb hg hat; have hne1 := QH HR.out HS.out.X (by decide); have hne2 := QH HR.out HT.out.X (by decide); have S3 := hQ (show CfS w (w.heap.size + 1) #[.slice A n c, .slice none 0 0, .int .i64 60000, .int .i64 100, .int .i64 32, .int .i64 8, .int .i64 10000, .int .i64 100, .int .i64 500, .int .i64 1024, .int .i64 1024, .int .u64 0, .slice none 0 0] w3 from ⟨(hg.block _ (zF HS.out.X) hne1).trans HS.out.X, hb, Nat.le_succ _⟩); have T3 := hQ (show CfS w w.heap.size #[.slice none 0 0, .slice none 0 0, .int .i64 0, .int .i64 0, .int .i64 0, .int .i64 0, .int .i64 0, .int .i64 0, .int .i64 0, .int .i64 0, .int .i64 0, .int .u64 0, .slice none 0 0] w3 from ⟨(hg.block _ (zF HT.out.X) hne2).trans HT.out.X, hb, Nat.le_refl _⟩); have R3 := hQ ho; have HL3 := zf.mk (show (l ++ [(⟨j, 0, 1000⟩ : S78)]).length = n + 1 by rw [List.length_append, HL.out]; rfl); obtain ⟨A3, c3, e3⟩ := Kd.zX ho; rw [HL3.out] at e3; subst e3; clear ho hb hg hat hne1 hne2 x0 x1 x2 x3 x4 x5 x6 x7 x8 x9 x10 x11 x12 f0 y0; obtain ⟨x0, x1, x2, x3, x4, x5, x6, x7, x8, x9, x10, x11, x12⟩ := S3.out.c; have f0 := zh S3.out.X 0)))
      have hwj : wrap64 (j + 1) = j + 1 := zA (by have := HE.out; omega) (by have := HE.out; omega)
      go_roundg (3 - j).toNat
      case measure => have := HE.out; omega
      case rel =>
        have he := HE.out
        refine ⟨j + 1, A3, n + 1, c3, l ++ [⟨j, 0, 1000⟩], by omega, by omega, by rw [hwj], by omega, HL3, ⟨S3.out.set 0 _⟩, ⟨(Below.heap_setCell w3 ⟨w.heap.size + 1, 0, none⟩ _ _ (show w.heap.size ≠ w.heap.size + 1 by omega)).trans T3.out.X, T3.out.B.setCell (show w.heap.size ≤ w.heap.size + 1 by omega) _, T3.out.ge⟩, ⟨Kd.vX R3.out S3.out.X (by decide) 0 _⟩⟩
    · have hd : decide (j < 4) = false := dF he
      have HB2 := hQ HS.out.B.size
      have hb4 : Below wr.heap.size wr (wr.alloc (.cells #[.int .i64 0, .string ⟨#[98, 117, 115, 98, 97, 114]⟩, .int .i64 1, .string ⟨#[98, 49]⟩, .int .i64 2, .string ⟨#[49, 46, 48]⟩] 84)) := (Below.refl _ _).alloc (Nat.le_refl _) _
      have S4 := hQ (HS.out.below hb4)
      have T4 := hQ (HT.out.below hb4)
      have R4 := hQ (show Kd.R k84 84 (wr.alloc (.cells #[.int .i64 0, .string ⟨#[98, 117, 115, 98, 97, 114]⟩, .int .i64 1, .string ⟨#[98, 49]⟩, .int .i64 2, .string ⟨#[49, 46, 48]⟩] 84)) w.heap.size (fun _ => True) (.slice (some ⟨wr.heap.size, 0, none⟩) 3 3) ql from KM (W := wr) k84 w.heap.size 84 (yK.c2 (Yu _ _ _ ⟨0, ⟨#[98, 117, 115, 98, 97, 114]⟩⟩) (yK.c2 (Yu _ _ _ ⟨1, ⟨#[98, 49]⟩⟩) (yK.c2 (Yu _ _ _ ⟨2, ⟨#[49, 46, 48]⟩⟩) (yK.none _ _)))) HB2.out (by decide))
      clear hj0 he hg hl hb4 x0 x1 x2 x3 x4 x5 x6 x7 x8 x9 x10 x11 x12 f0
      obtain ⟨x0, x1, x2, x3, x4, x5, x6, x7, x8, x9, x10, x11, x12⟩ := S4.out.c
      obtain ⟨y0, y1, y2, y3, y4, y5, y6, y7, y8, y9, y10, y11, y12⟩ := T4.out.c
      have fx := fun i => zh S4.out.X i
      have fy := fun i => zh T4.out.X i
      go_wp2_with (fail)
      refine bodyPost_ret (v := .agg #[.slice A n c, .slice none 0 0, .int .i64 60000, .int .i64 100, .int .i64 32, .int .i64 8, .int .i64 10000, .int .i64 100, .int .i64 500, .int .i64 1024, .int .i64 1024, .int .u64 0, .slice (some ⟨wr.heap.size, 0, none⟩) 3 3]) ?_ rfl ⟨_, _, _, _, rfl, qB (g1 := w.heap.size + 1) (g2 := w.heap.size) (fun i h1 h2 => ?_) S4.out.X T4.out.X (by decide) R4.out, ?_⟩
      · simp [results, Tryz.results40, go_sem, hu30, y0, y1, y2, y3, y4, y5, y6, y7, y8, y9, y10, y11, y12]
      · iterate 13 rw [Below.heap_setCell _ _ _ i h2]
        rw [Below.heap_setCell _ _ _ i h1]
      · refine S4.out.B.trans ?_
        (repeat (with_reducible first | exact Below.refl _ _ | (refine jc ?_ (by omega))))
open Go.Proofs.YtlalbohhopmpdaaGreat.Tiny
theorem VR (w : World) (t a b : Int) : Kd.C k78 (w.alloc (.cells #[.int .i64 t, .int .i64 a, .int .i64 b] 78)) (some ⟨w.heap.size, 0, none⟩) 1 [⟨t, a, b⟩] :=
  (Kd.zw (KM (W := w) k78 0 78 (xs := [⟨t, a, b⟩]) (yK.c3 (qC _ _ _ ⟨t, a, b⟩) (yK.none _ _)) (Nat.zero_le _) (by simp))).2.2
theorem zdv {x s : S78} (h : qY (xx x s)) (j : Int) (h0 : 0 ≤ j) (h1 : j < [x].length) : qY (xx (zK [x] j) s) := by
  obtain rfl : j = 0 := by simp at h1; omega
  exact h
def vM (t a b : Int) (r : Bool) : Prop := ∀ (W : World) (A : Option Addr) (c : Nat), Kd.C k81 W A 3 yl → Calls Tryz.prog 75 #[.slice A 3 c, .agg #[.int .i64 t, .int .i64 a, .int .i64 b]] W fun e w' => e = .returned (.bool r) ∧ Below W.heap.size W w'
def kN (t a b r : Int) : Prop := ∀ (W : World) (A : Option Addr) (c : Nat), Kd.C k78 W A 5 yD → 5 ≤ c → Calls Tryz.prog 74 #[.slice A 5 c, .int .i64 100, .agg #[.int .i64 t, .int .i64 a, .int .i64 b]] W fun e w' => e = .returned (.int .i64 r) ∧ Below W.heap.size W w'
theorem zad (w : World) (A : Option Addr) (c : Nat) (l : List S81) (t a b : Int) (hC : Kd.C k81 w A l.length l) (hl : l.length ≤ 1000)
    (hR : ∀ j : Int, 0 ≤ j → j < l.length → wrap64 ((zJ l j).f1 + (zJ l j).f2) = (zJ l j).f1 + (zJ l j).f2)
    (hM : ∀ j : Int, 0 ≤ j → j < l.length → qY (xx ⟨(zJ l j).f0, (zJ l j).f1, (zJ l j).f1 + (zJ l j).f2⟩ ⟨t, a, b⟩)) :
    Calls Tryz.prog 75 #[.slice A l.length c, .agg #[.int .i64 t, .int .i64 a, .int .i64 b]] w fun e w' => e = .returned (.bool false) ∧ Below w.heap.size w w' := by
  have hu81 := Tryz.underlying81
  have hu78 := Tryz.underlying78
  have hu26 := Tryz.underlying26
  have hb0 : Below w.heap.size w (w.alloc (.cells #[.int .i64 t, .int .i64 a, .int .i64 b] 78)) := (Below.refl _ _).alloc (Nat.le_refl _) _
  have B0 := hQ hb0
  have S0 := hQ (zi w (.cells #[.int .i64 t, .int .i64 a, .int .i64 b] 78 (0, 0)))
  have HC := hQ hC
  have HL := hQ hl
  have HRW := hQ hR
  have HM := hQ hM
  clear hC hl hR hM hb0
  go_enter Tryz.func75, Tryz.ntmps75
  go_wp2_with (fail)
  go_loopg [10] l.length (fun g_ v10 wx => ∃ j : Int, 0 ≤ j ∧ (g_ : Int) = l.length - j ∧ v10 = .int .i64 j ∧ zf (Below w.heap.size w wx) ∧ zf (wx.heap[w.heap.size]? = some (.cells #[.int .i64 t, .int .i64 a, .int .i64 b] 78 (0, 0))))
  case atStart => exact ⟨0, by omega, by omega, rfl, ⟨B0.out⟩, ⟨S0.out⟩⟩
  case round =>
    obtain ⟨j, hj0, hg, rfl, HB, HS⟩ := hrel
    by_cases he : j < (l.length : Int)
    · have hd : decide (j < (l.length : Int)) = true := dT he
      have HE := hQ (show 0 ≤ j ∧ j < (l.length : Int) ∧ (gk : Int) = l.length - j from ⟨hj0, he, hg⟩)
      obtain ⟨ad, e, hx0, hx1, hx2⟩ := Kh (Kd.zz HC.out HB.out) j hj0 he
      cases e
      have p0 : (0 ≤ j) = True := eq_true hj0
      have q0 : (j < (l.length : Int)) = True := eq_true he
      have hw1 : wrap64 (j + 1) = j + 1 := zA (by have := HL.out; omega) (by have := HL.out; omega)
      have hb1 : Below wr.heap.size wr (wr.alloc (.cells #[.int .i64 (zJ l j).f0, .int .i64 (zJ l j).f1, .int .i64 (zJ l j).f2] 81)) := (Below.refl _ _).alloc (Nat.le_refl _) _
      have B1 := hQ (ze HB.out HB.out.size hb1)
      have S1 := hQ (zb HS.out hb1)
      obtain ⟨s0, s1, s2⟩ := zV (zi wr (.cells #[.int .i64 (zJ l j).f0, .int .i64 (zJ l j).f1, .int .i64 (zJ l j).f2] 81 (0, 0)))
      clear hb1 hj0 hg he
      go_wp2_with (fail)
      refine (WV _ (zJ l j).f0 (zJ l j).f1 (zJ l j).f2 (HRW.out j HE.out.1 HE.out.2.1)).mono ?_
      rintro e w2 ⟨rfl, hb⟩
      have hb3 : Below w2.heap.size w2 ((w2.alloc (.cells #[.int .i64 (zJ l j).f0, .int .i64 (zJ l j).f1, .int .i64 ((zJ l j).f1 + (zJ l j).f2)] 78)).drew) := zk ((Below.refl _ _).alloc (Nat.le_refl _) _)
      have B3 := hQ (ze (ze B1.out B1.out.size hb) (Nat.le_trans B1.out.size hb.size) hb3)
      have S3 := hQ (zb (zb S1.out hb) hb3)
      have C3_ := hQ (Kd.zz (VR w2 (zJ l j).f0 (zJ l j).f1 ((zJ l j).f1 + (zJ l j).f2)) (zk (Below.refl _ _)))
      clear hb hb3 s0 s1 s2
      go_wp2_with (fail)
      --WALK
      refine sq_ (ds := []) #[false, false, false, false, false, false, false, false, false, false, false, false] (fun w' => w'.cell? ⟨w.heap.size, 0, none⟩ = some (.int .i64 t) ∧ w'.cell? ⟨w.heap.size, 1, none⟩ = some (.int .i64 a) ∧ w'.cell? ⟨w.heap.size, 2, none⟩ = some (.int .i64 b)) ⟨za S3.out 0, za S3.out 1, za S3.out 2⟩ (fun hHeld => ?_)
      refine pq_ 0 (some 17) ?_
      refine tq_ 1 (some 18) hHeld ?_
      refine oq_ 2 (some 19) (fun K hK => ?_)
      refine yo Tryz.func91 (by kernel_rfl) rfl #[.slice (some ⟨w2.heap.size, 0, none⟩) 1 1, .agg #[.int .i64 t, .int .i64 a, .int .i64 b]] (by rfl) rfl rfl (by (try simp only [List.map_toArray, List.map_cons, List.map_nil]); first | done | rfl) ?_
      refine (KY _ _ 1 [⟨(zJ l j).f0, (zJ l j).f1, (zJ l j).f1 + (zJ l j).f2⟩] ⟨t, a, b⟩ C3_.out (by simp) (zdv (HM.out j HE.out.1 HE.out.2.1))).mono ?_
      rintro e w4 ⟨rfl, hb⟩
      refine ⟨_, rfl, ?_⟩
      have B4 := hQ (ze B3.out B3.out.size hb)
      have S4 := hQ (zb S3.out hb)
      clear hb
      refine hK.out _ _ ⟨za S4.out 0, za S4.out 1, za S4.out 2⟩ (fun hHeld => ?_)
      clear hK K
      refine nq_ ?_
      refine pq_ 3 (some 20) ?_
      refine uq_ 4 (some 21) ?_
      refine uq_ 5 (some 22) ?_
      refine uq_ 6 (some 23) ?_
      refine uq_ 7 (some 24) ?_
      refine uq_ 8 (some 25) ?_
      refine uq_ 9 (some 26) ?_
      refine uq_ 10 (some 27) ?_
      refine pq_ 11 (some 28) ?_
      refine xP (by kernel_rfl) ?_
      --END
      all_goals
        go_wp2
        go_roundg (l.length - (j + 1)).toNat
        case measure => have := HE.out; omega
        case rel => have := HE.out; exact ⟨j + 1, by omega, by omega, by first | rfl | rw [hw1], ⟨B4.out⟩, ⟨S4.out⟩⟩
    · have hd : decide (j < (l.length : Int)) = false := dF he
      clear he hj0 hg
      go_wp2
      exact bodyPost_ret (v := .bool false) (by simp [results, Tryz.results75, go_sem]) rfl ⟨rfl, HB.out⟩
theorem zdk {x s : S78} {rc : Bool} (h : if rc then xx x s = s else xx x s ≠ s) : if rc then ∃ j : Int, 0 ≤ j ∧ j < [x].length ∧ xx (zK [x] j) s = s else QI [x] s [x].length := by
  cases rc with
  | true => exact ⟨0, by decide, by simp, h⟩
  | false =>
    intro i h0 h1
    obtain rfl : i = 0 := by simp at h1; omega
    exact h
theorem Qd (t a b : Int) (rc : Bool) (h1 : ZQ ⟨t, a, b⟩) (h2 : if rc then xx ⟨2, 100, 108⟩ ⟨t, a, b⟩ = ⟨t, a, b⟩ else xx ⟨2, 100, 108⟩ ⟨t, a, b⟩ ≠ ⟨t, a, b⟩) (h3 : rc = false → ∃ j : Int, 0 ≤ j ∧ j < yD.length ∧ xx (zK yD j) ⟨t, a, b⟩ = ⟨t, a, b⟩) : kN t a b (if rc then 2 else 1) := by
  intro w A c hC hc
  have hu78 := Tryz.underlying78
  have B0 := hQ (show Below w.heap.size w (w.alloc (.cells #[.int .i64 t, .int .i64 a, .int .i64 b] 78)) from (Below.refl _ _).alloc (Nat.le_refl _) _)
  have S0 := hQ (zi w (.cells #[.int .i64 t, .int .i64 a, .int .i64 b] 78 (0, 0)))
  obtain ⟨s0, s1, s2⟩ := zV S0.out
  have HC := hQ hC
  have HCC := hQ hc
  have H1 := hQ h1
  have H2 := hQ h2
  have H3 := hQ h3
  clear hC hc h1 h2 h3
  go_enter Tryz.func74, Tryz.ntmps74
  go_wp2_with (fail)
  refine (Yr _ t a b true H1.out.1 (dT H1.out.2)).mono ?_
  rintro e w1 ⟨rfl, hb⟩
  have B1 := hQ (ze B0.out B0.out.size hb)
  have S1 := hQ (zb S0.out hb)
  clear hb s0 s1 s2
  go_wp2_with (fail)
  have S2 := hQ (zb S1.out (zk (Below.refl w1.heap.size w1)))
  have B2 := hQ (ze B1.out B1.out.size (zk (Below.refl w1.heap.size w1)))
  obtain ⟨s0, s1, s2⟩ := zV S2.out
  go_region_law (first | (go_simp; go_at_call 92; refine (XX _).mono ?_; rintro e w3 ⟨rfl, hb⟩; have B3 := hQ (ze B2.out B2.out.size hb); have S3 := hQ (zb S2.out hb); have hb4 : Below w3.heap.size w3 (w3.alloc (.cells #[.int .i64 2, .int .i64 100, .int .i64 108] 78)) := (Below.refl _ _).alloc (Nat.le_refl _) _; have B4 := hQ (ze B3.out B3.out.size hb4); have S4 := hQ (zb S3.out hb4); have C4 := hQ (VR w3 2 100 108); clear hb hb4 s0 s1 s2; obtain ⟨s0, s1, s2⟩ := zV S3.out; obtain ⟨t0, t1, t2⟩ := zV S4.out) | (go_simp; go_at_call 95; refine (ZC _ _ 1 [⟨2, 100, 108⟩] ⟨t, a, b⟩ rc C4.out (by decide) (zdk H2.out)).mono ?_; rintro e w5 ⟨rfl, hb⟩; have B5 := hQ (ze B4.out B4.out.size hb); have S5 := hQ (zb S4.out hb); clear hb s0 s1 s2 t0 t1 t2; obtain ⟨s0, s1, s2⟩ := zV S5.out))
  all_goals
    cases rc
    · go_wp2_with (fail)
      refine (ZC _ A c yD ⟨t, a, b⟩ true (Kd.zz HC.out B5.out) (by decide) (H3.out (by first | rfl | trivial))).mono ?_
      rintro e w6 ⟨rfl, hb⟩
      have B6 := hQ (ze B5.out B5.out.size hb)
      clear hb
      go_wp2
      exact bodyPost_ret (v := .int .i64 1) (by simp [results, Tryz.results74, go_sem]) rfl ⟨rfl, B6.out⟩
    · go_wp2
      exact bodyPost_ret (v := .int .i64 2) (by simp [results, Tryz.results74, go_sem]) rfl ⟨rfl, B5.out⟩
theorem Vr (j : Int) (h0 : 0 ≤ j) (h1 : j < yl.length) : zJ yl j = ⟨2, 4, 2⟩ ∨ zJ yl j = ⟨2, 8, 4⟩ ∨ zJ yl j = ⟨3, 4, 4⟩ := by
  have : (yl.length : Int) = 3 := rfl
  obtain rfl | rfl | rfl : j = 0 ∨ j = 1 ∨ j = 2 := by omega
  · exact .inl rfl
  · exact .inr (.inl rfl)
  · exact .inr (.inr rfl)
theorem zaX (t a b : Int) (h1 : qY (xx ⟨2, 4, 6⟩ ⟨t, a, b⟩)) (h2 : qY (xx ⟨2, 8, 12⟩ ⟨t, a, b⟩)) (h3 : qY (xx ⟨3, 4, 8⟩ ⟨t, a, b⟩)) : vM t a b false := fun W A c hC =>
  zad W A c yl t a b hC (by decide) (fun j h0 h1 => by rcases Vr j h0 h1 with e | e | e <;> (rw [e]; exact Vh _ _ (by decide)))
    (fun j h0 hl => by
      rcases Vr j h0 hl with e | e | e <;> rw [e]
      · exact h1
      · exact h2
      · exact h3)
theorem zaE {a : Int} (ha : okA a) : (a = 0 ∨ a = 2) ∨ (24 ≤ a ∧ a < 40) := by
  unfold okA at ha
  omega
theorem YT (a : Int) (ha : okA a) : kN 2 a (a + 1) 1 :=
  Qd 2 a (a + 1) false (vO (P := fun a => ZQ ⟨2, a, a + 1⟩) (by decide +kernel) (by decide +kernel) (by decide +kernel) a ha) (show xx ⟨2, 100, 108⟩ ⟨2, a, a + 1⟩ ≠ ⟨2, a, a + 1⟩ from fun h => by
    have h1 := congrArg S78.f1 h
    have h2 : (xx ⟨2, 100, 108⟩ ⟨2, a, a + 1⟩).f1 = if (100 : Int) < a then a else 100 := rfl
    rw [h2] at h1
    have h3 : (if (100 : Int) < a then a else 100) = a := h1
    have := kv ha
    have := zaE ha
    split at h3 <;> omega) (fun _ => by
    have hb : ∀ (x y : Int), x ≤ a → a + 1 ≤ y → xx ⟨2, x, y⟩ ⟨2, a, a + 1⟩ = ⟨2, a, a + 1⟩ := fun x y h1 h2 => by
      unfold xx
      rw [if_pos rfl]
      have e1 : (if x < a then a else x) = a := by split <;> omega
      have e2 : (if a + 1 < y then a + 1 else y) = a + 1 := by split <;> omega
      show (⟨2, (if x < a then a else x), (if a + 1 < y then a + 1 else y)⟩ : S78) = _
      rw [e1, e2]
    rcases zaE ha with h | h
    · exact ⟨2, by decide, by decide, hb 0 20 (by omega) (by omega)⟩
    · exact ⟨3, by decide, by decide, hb 24 40 (by omega) (by omega)⟩)
theorem Jl (x y a b : Int) (h1 : x ≤ a) (h2 : b ≤ y) : xx ⟨2, x, y⟩ ⟨2, a, b⟩ = ⟨2, a, b⟩ := by
  unfold xx
  rw [if_pos rfl]
  have e1 : (if x < a then a else x) = a := by split <;> omega
  have e2 : (if b < y then b else y) = b := by split <;> omega
  show (⟨2, (if x < a then a else x), (if b < y then b else y)⟩ : S78) = _
  rw [e1, e2]
theorem KV : kN 2 100 101 2 := Qd 2 100 101 true (by decide) (Jl 100 108 100 101 (by decide) (by decide)) (fun h => by cases h)
theorem JF : kN 2 101 103 2 := Qd 2 101 103 true (by decide) (Jl 100 108 101 103 (by decide) (by decide)) (fun h => by cases h)
theorem Wo (a : Int) (ha : okA a) : vM 2 a (a + 1) false :=
  zaX 2 a (a + 1) (vO (P := fun a => qY (xx ⟨2, 4, 6⟩ ⟨2, a, a + 1⟩)) (by decide +kernel) (by decide +kernel) (by decide +kernel) a ha) (vO (P := fun a => qY (xx ⟨2, 8, 12⟩ ⟨2, a, a + 1⟩)) (by decide +kernel) (by decide +kernel) (by decide +kernel) a ha) (vO (P := fun a => qY (xx ⟨3, 4, 8⟩ ⟨2, a, a + 1⟩)) (by decide +kernel) (by decide +kernel) (by decide +kernel) a ha)
def xA (m g o : Value) : Array Value := #[m, g, .int .i64 100, .int .i64 1000, .int .i64 8, .int .i64 8, .int .i64 100000, .int .i64 500, .int .i64 2000, .int .i64 1024, .int .i64 1024, .int .u64 0, o]
theorem YV {w : World} {g t : Nat} {v0 v1 v2 v3 v4 v5 v6 v7 v8 v9 v10 v11 v12 : Value} (h : w.heap[g]? = some (.cells #[v0, v1, v2, v3, v4, v5, v6, v7, v8, v9, v10, v11, v12] t (0, 0))) :
    w.cell? ⟨g, 0, none⟩ = some v0 ∧ w.cell? ⟨g, 1, none⟩ = some v1 ∧ w.cell? ⟨g, 2, none⟩ = some v2 ∧ w.cell? ⟨g, 3, none⟩ = some v3 ∧ w.cell? ⟨g, 4, none⟩ = some v4 ∧ w.cell? ⟨g, 5, none⟩ = some v5 ∧ w.cell? ⟨g, 6, none⟩ = some v6 ∧ w.cell? ⟨g, 7, none⟩ = some v7 ∧ w.cell? ⟨g, 8, none⟩ = some v8 ∧ w.cell? ⟨g, 9, none⟩ = some v9 ∧ w.cell? ⟨g, 10, none⟩ = some v10 ∧ w.cell? ⟨g, 11, none⟩ = some v11 ∧ w.cell? ⟨g, 12, none⟩ = some v12 :=
  ⟨za h 0, za h 1, za h 2, za h 3, za h 4, za h 5, za h 6, za h 7, za h 8, za h 9, za h 10, za h 11, za h 12⟩
structure Qg (w : World) (cb : Nat) : Prop where
  at_ : ∃ Am cm Ag cg o, w.heap[cb]? = some (.cells (xA (.slice Am 5 cm) (.slice Ag 3 cg) o) 30 (0, 0)) ∧ 5 ≤ cm ∧ 3 ≤ cg ∧ Kd.C k78 w Am 5 yD ∧ Kd.C k81 w Ag 3 yl
theorem zcm (w : World) (cb wb : Nat) (wh t a b r : Int) (hc : Qg w cb) (hw : w.cell? ⟨wb, 0, none⟩ = some (.int .i64 wh)) (h : kN t a b r) :
    Calls Tryz.prog 139 #[.agg #[.int .i64 t, .int .i64 a, .int .i64 b], .pointer (some ⟨cb, 0, none⟩), .pointer (some ⟨wb, 0, none⟩)] w fun e w' => e = .returned (.bool (r == wh)) ∧ Below w.heap.size w w' := by
  have hu78 := Tryz.underlying78
  have hu30 := Tryz.underlying30
  obtain ⟨Am, cm, Ag, cg, o, h1, h2, h3, h4, h5⟩ := hc.at_
  obtain ⟨W1, hW1⟩ : ∃ W1, W1 = (w.alloc (.cells #[.int .i64 t, .int .i64 a, .int .i64 b] 78)).drew := ⟨_, rfl⟩
  have hb1 : Below w.heap.size w W1 := by rw [hW1]; exact zk ((Below.refl _ _).alloc (Nat.le_refl _) _)
  have B1 := hQ hb1
  have X1 := hQ (zb h1 hb1)
  have Y1 := hQ (show W1.heap[w.heap.size]? = some (.cells #[.int .i64 t, .int .i64 a, .int .i64 b] 78 (0, 0)) by rw [hW1]; exact zo (zi w _))
  have M1 := hQ (Kd.zz h4 hb1)
  have Z1 := hQ ((hb1.cell (World.block_lt_of_cell? _ _ hw)).trans hw)
  have HM := hQ h2
  have H := hQ h
  rw [hW1] at B1 X1 M1 Z1 Y1
  simp only [xA] at X1
  clear h1 h2 h3 h4 h5 hw h hb1 hW1
  go_enter Tryz.func139, Tryz.ntmps139
  go_wp2_with (fail)
  refine sq_ (ds := []) #[false, false, false, false, false, false, false, false, false] (fun w' => w'.cell? ⟨cb, 0, none⟩ = some (.slice Am 5 cm) ∧ w'.cell? ⟨cb, 2, none⟩ = some (.int .i64 100) ∧ w'.cell? ⟨w.heap.size, 0, none⟩ = some (.int .i64 t) ∧ w'.cell? ⟨w.heap.size, 1, none⟩ = some (.int .i64 a) ∧ w'.cell? ⟨w.heap.size, 2, none⟩ = some (.int .i64 b) ∧ w'.cell? ⟨wb, 0, none⟩ = some (.int .i64 wh)) ⟨za X1.out 0, za X1.out 2, za Y1.out 0, za Y1.out 1, za Y1.out 2, Z1.out⟩ (fun hHeld => ?_)
  refine pq_ 0 (some 5) ?_
  refine pq_ 2 (some 7) ?_
  refine tq_ 1 (some 6) hHeld ?_
  refine tq_ 3 (some 8) hHeld ?_
  refine tq_ 4 (some 9) hHeld ?_
  refine tq_ 6 (some 11) hHeld ?_
  refine oq_ 5 (some 10) (fun K hK => ?_)
  refine yo Tryz.func74 (by kernel_rfl) rfl #[.slice Am 5 cm, .int .i64 100, .agg #[.int .i64 t, .int .i64 a, .int .i64 b]] (by rfl) rfl rfl (by (try simp only [List.map_toArray, List.map_cons, List.map_nil]); first | done | rfl) ?_
  refine (H.out _ Am cm M1.out HM.out).mono ?_
  rintro e w2 ⟨rfl, hb⟩
  refine ⟨_, rfl, ?_⟩
  have B2 := hQ (ze B1.out B1.out.size hb)
  have X2 := hQ (zb X1.out hb)
  have Y2 := hQ (zb Y1.out hb)
  have Z2 := hQ ((hb.cell (World.block_lt_of_cell? _ _ Z1.out)).trans Z1.out)
  clear hb
  refine hK.out _ _ ⟨za X2.out 0, za X2.out 2, za Y2.out 0, za Y2.out 1, za Y2.out 2, Z2.out⟩ (fun hHeld => ?_)
  clear hK K
  refine nq_ ?_
  refine pq_ 7 (some 12) ?_
  refine pq_ 8 (some 4) ?_
  refine xP (by kernel_rfl) ?_
  --ENDA
  go_wp2
  exact bodyPost_ret (v := .bool (r == wh)) (by simp [results, Tryz.results139, go_sem]) rfl ⟨rfl, B2.out⟩
theorem zcl (w : World) (cb : Nat) (t a b : Int) (r : Bool) (hc : Qg w cb) (h : vM t a b r) :
    Calls Tryz.prog 140 #[.agg #[.int .i64 t, .int .i64 a, .int .i64 b], .pointer (some ⟨cb, 0, none⟩)] w fun e w' => e = .returned (.bool r) ∧ Below w.heap.size w w' := by
  have hu78 := Tryz.underlying78
  have hu30 := Tryz.underlying30
  obtain ⟨Am, cm, Ag, cg, o, h1, h2, h3, h4, h5⟩ := hc.at_
  obtain ⟨W1, hW1⟩ : ∃ W1, W1 = w.alloc (.cells #[.int .i64 t, .int .i64 a, .int .i64 b] 78) := ⟨_, rfl⟩
  have hb1 : Below w.heap.size w W1 := by rw [hW1]; exact (Below.refl _ _).alloc (Nat.le_refl _) _
  have B1 := hQ hb1
  have X1 := hQ (zb h1 hb1)
  have M1 := hQ (Kd.zz h5 hb1)
  have HM := hQ h3
  have H := hQ h
  rw [hW1] at B1 X1 M1
  simp only [xA] at X1
  clear h1 h2 h3 h4 h5 h hb1 hW1
  obtain ⟨x0, x1, x2, x3, x4, x5, x6, x7, x8, x9, x10, x11, x12⟩ := YV X1.out
  go_enter Tryz.func140, Tryz.ntmps140
  go_wp2_with (fail)
  refine (H.out _ Ag cg M1.out).mono ?_
  rintro e w2 ⟨rfl, hb⟩
  have B2 := hQ (ze B1.out B1.out.size hb)
  clear hb
  go_wp2
  exact bodyPost_ret (v := .bool r) (by simp [results, Tryz.results140, go_sem]) rfl ⟨rfl, B2.out⟩
theorem Kn (w : World) (g c : Nat) (cb wb : Nat) (wh t a b r : Int) (i0 : w.cell? ⟨g, 0, none⟩ = some (.int .i64 t)) (i1 : w.cell? ⟨g, 1, none⟩ = some (.int .i64 a)) (i2 : w.cell? ⟨g, 2, none⟩ = some (.int .i64 b)) (hc : Qg w cb) (hw : w.cell? ⟨wb, 0, none⟩ = some (.int .i64 wh)) (h : kN t a b r) (hb0 : (r == wh) = true) :
    Calls Tryz.prog 174 #[.slice (some ⟨g, 0, none⟩) 1 c, .func (.func 139) #[] #[.pointer (some ⟨cb, 0, none⟩), .pointer (some ⟨wb, 0, none⟩)]] w fun e w' => e = .returned (.int .i64 (0)) ∧ Below w.heap.size w w' := by
  have hu78 := Tryz.underlying78
  have hF := zcm w cb wb wh t a b r hc hw h
  rw [hb0] at hF
  clear hb0
  go_enter Tryz.func174, Tryz.ntmps174
  go_wp2_with (fail)
  refine wp_loop_rounds 2 ?_
  rw [rounds_succ]
  go_wp2_with (fail)
  go_at_call 139
  refine hF.mono ?_
  rintro e w2 ⟨rfl, hb⟩
  have HB := hQ hb
  clear hb
  go_wp2
  go_ret
  exact ⟨rfl, HB.out⟩
theorem JY (w : World) (g c : Nat) (cb wb : Nat) (wh t a b r : Int) (i0 : w.cell? ⟨g, 0, none⟩ = some (.int .i64 t)) (i1 : w.cell? ⟨g, 1, none⟩ = some (.int .i64 a)) (i2 : w.cell? ⟨g, 2, none⟩ = some (.int .i64 b)) (hc : Qg w cb) (hw : w.cell? ⟨wb, 0, none⟩ = some (.int .i64 wh)) (h : kN t a b r) (hb0 : (r == wh) = false) :
    Calls Tryz.prog 174 #[.slice (some ⟨g, 0, none⟩) 1 c, .func (.func 139) #[] #[.pointer (some ⟨cb, 0, none⟩), .pointer (some ⟨wb, 0, none⟩)]] w fun e w' => e = .returned (.int .i64 (-1)) ∧ Below w.heap.size w w' := by
  have hu78 := Tryz.underlying78
  have hF := zcm w cb wb wh t a b r hc hw h
  rw [hb0] at hF
  clear hb0
  go_enter Tryz.func174, Tryz.ntmps174
  go_wp2_with (fail)
  refine wp_loop_rounds 2 ?_
  rw [rounds_succ]
  go_wp2_with (fail)
  go_at_call 139
  refine hF.mono ?_
  rintro e w2 ⟨rfl, hb⟩
  have HB := hQ hb
  clear hb
  go_wp2_with (fail)
  rw [rounds_succ]
  go_wp2_with (fail)
  go_wp2
  go_ret
  exact ⟨rfl, HB.out⟩
theorem qj (w : World) (g c : Nat) (cb wb : Nat) (wh t a b r : Int) (i0 : w.cell? ⟨g, 0, none⟩ = some (.int .i64 t)) (i1 : w.cell? ⟨g, 1, none⟩ = some (.int .i64 a)) (i2 : w.cell? ⟨g, 2, none⟩ = some (.int .i64 b)) (hc : Qg w cb) (hw : w.cell? ⟨wb, 0, none⟩ = some (.int .i64 wh)) (h : kN t a b r) :
    Calls Tryz.prog 141 #[.slice (some ⟨g, 0, none⟩) 1 c, .func (.func 139) #[] #[.pointer (some ⟨cb, 0, none⟩), .pointer (some ⟨wb, 0, none⟩)]] w fun e w' => e = .returned (.bool ((r == wh))) ∧ Below w.heap.size w w' := by
  by_cases hr : (r == wh) = true
  · have hI := Kn w g c cb wb wh t a b r i0 i1 i2 hc hw h hr
    rw [hr]
    clear hr
    go_enter Tryz.func141, Tryz.ntmps141
    go_wp2_with (fail)
    refine hI.mono ?_
    rintro e w2 ⟨rfl, hb⟩
    have HB := hQ hb
    clear hb
    go_wp2
    go_ret
    exact ⟨rfl, HB.out⟩
  · have hr2 : (r == wh) = false := by simpa using hr
    have hI := JY w g c cb wb wh t a b r i0 i1 i2 hc hw h hr2
    rw [hr2]
    clear hr hr2
    go_enter Tryz.func141, Tryz.ntmps141
    go_wp2_with (fail)
    refine hI.mono ?_
    rintro e w2 ⟨rfl, hb⟩
    have HB := hQ hb
    clear hb
    go_wp2
    go_ret
    exact ⟨rfl, HB.out⟩
theorem KU (w : World) (g c : Nat) (cb : Nat) (t a b : Int) (r : Bool) (i0 : w.cell? ⟨g, 0, none⟩ = some (.int .i64 t)) (i1 : w.cell? ⟨g, 1, none⟩ = some (.int .i64 a)) (i2 : w.cell? ⟨g, 2, none⟩ = some (.int .i64 b)) (hc : Qg w cb) (h : vM t a b r) (hb0 : r = true) :
    Calls Tryz.prog 174 #[.slice (some ⟨g, 0, none⟩) 1 c, .func (.func 140) #[] #[.pointer (some ⟨cb, 0, none⟩)]] w fun e w' => e = .returned (.int .i64 (0)) ∧ Below w.heap.size w w' := by
  have hu78 := Tryz.underlying78
  have hF := zcl w cb t a b r hc h
  rw [hb0] at hF
  clear hb0
  go_enter Tryz.func174, Tryz.ntmps174
  go_wp2_with (fail)
  refine wp_loop_rounds 2 ?_
  rw [rounds_succ]
  go_wp2_with (fail)
  go_at_call 140
  refine hF.mono ?_
  rintro e w2 ⟨rfl, hb⟩
  have HB := hQ hb
  clear hb
  go_wp2
  go_ret
  exact ⟨rfl, HB.out⟩
theorem Kw (w : World) (g c : Nat) (cb : Nat) (t a b : Int) (r : Bool) (i0 : w.cell? ⟨g, 0, none⟩ = some (.int .i64 t)) (i1 : w.cell? ⟨g, 1, none⟩ = some (.int .i64 a)) (i2 : w.cell? ⟨g, 2, none⟩ = some (.int .i64 b)) (hc : Qg w cb) (h : vM t a b r) (hb0 : r = false) :
    Calls Tryz.prog 174 #[.slice (some ⟨g, 0, none⟩) 1 c, .func (.func 140) #[] #[.pointer (some ⟨cb, 0, none⟩)]] w fun e w' => e = .returned (.int .i64 (-1)) ∧ Below w.heap.size w w' := by
  have hu78 := Tryz.underlying78
  have hF := zcl w cb t a b r hc h
  rw [hb0] at hF
  clear hb0
  go_enter Tryz.func174, Tryz.ntmps174
  go_wp2_with (fail)
  refine wp_loop_rounds 2 ?_
  rw [rounds_succ]
  go_wp2_with (fail)
  go_at_call 140
  refine hF.mono ?_
  rintro e w2 ⟨rfl, hb⟩
  have HB := hQ hb
  clear hb
  go_wp2_with (fail)
  rw [rounds_succ]
  go_wp2_with (fail)
  go_wp2
  go_ret
  exact ⟨rfl, HB.out⟩
theorem JB (w : World) (g c : Nat) (cb : Nat) (t a b : Int) (r : Bool) (i0 : w.cell? ⟨g, 0, none⟩ = some (.int .i64 t)) (i1 : w.cell? ⟨g, 1, none⟩ = some (.int .i64 a)) (i2 : w.cell? ⟨g, 2, none⟩ = some (.int .i64 b)) (hc : Qg w cb) (h : vM t a b r) :
    Calls Tryz.prog 141 #[.slice (some ⟨g, 0, none⟩) 1 c, .func (.func 140) #[] #[.pointer (some ⟨cb, 0, none⟩)]] w fun e w' => e = .returned (.bool (r)) ∧ Below w.heap.size w w' := by
  by_cases hr : r = true
  · have hI := KU w g c cb t a b r i0 i1 i2 hc h hr
    rw [hr]
    clear hr
    go_enter Tryz.func141, Tryz.ntmps141
    go_wp2_with (fail)
    refine hI.mono ?_
    rintro e w2 ⟨rfl, hb⟩
    have HB := hQ hb
    clear hb
    go_wp2
    go_ret
    exact ⟨rfl, HB.out⟩
  · have hr2 : r = false := by simpa using hr
    have hI := Kw w g c cb t a b r i0 i1 i2 hc h hr2
    rw [hr2]
    clear hr hr2
    go_enter Tryz.func141, Tryz.ntmps141
    go_wp2_with (fail)
    refine hI.mono ?_
    rintro e w2 ⟨rfl, hb⟩
    have HB := hQ hb
    clear hb
    go_wp2
    go_ret
    exact ⟨rfl, HB.out⟩
theorem Qx (w : World) (f : Value) :
    Calls Tryz.prog 141 #[.slice none 0 0, f] w fun e w' => e = .returned (.bool false) ∧ Below w.heap.size w w' := by
  have hI : Calls Tryz.prog 174 #[.slice none 0 0, f] w fun e w' => e = .returned (.int .i64 (-1)) ∧ Below w.heap.size w w' := by
    go_enter Tryz.func174, Tryz.ntmps174
    go_wp2_with (fail)
    refine wp_loop_rounds 1 ?_
    rw [rounds_succ]
    go_wp2_with (fail)
    go_wp2
    go_ret
    exact ⟨rfl, Below.refl _ _⟩
  go_enter Tryz.func141, Tryz.ntmps141
  go_wp2_with (fail)
  refine hI.mono ?_
  rintro e w2 ⟨rfl, hb⟩
  have HB := hQ hb
  clear hb
  go_wp2
  go_ret
  exact ⟨rfl, HB.out⟩
theorem KX (w : World) :
    Calls Tryz.prog 173 #[.slice none 0 0, .int .i64 1] w fun e w' => ∃ v, e = .returned v ∧ Kd.R k78 78 w' w.heap.size (fun _ => True) v [] ∧ Below w.heap.size w w' := by
  go_enter Tryz.func173, Tryz.ntmps173
  go_wp2_with (first | ((with_reducible refine zZ (b := .append) (xs := #[.tmp 20, .tmp 21]) (ts := #[25, 3]) rfl ?_); refine Kd.Xc k78 (w0 := w) w.heap.size rfl (.tmp 20) (.tmp 21) 25 3 78 (.agg #[(.int .i64 0), (.int .i64 0), (.int .i64 0)]) 24 rfl Tryz.underlying25 Tryz.underlying3 qN rfl (by decide) (by omega) (.slice none 0 0) ([] : List S78) (⟨0, 0, 0⟩ : S78) (kx := .i64) 1 (fun _ => True) rfl rfl (qC _ _ _ ⟨0, 0, 0⟩) (fun _ _ => trivial) (Kd.xM _ _ _ _ _) (by omega) (Below.refl _ _) (Nat.le_refl _) (by simp) ?_; intro v1 w1 ho hb hg_ hat_; obtain ⟨g1, c1, rfl, _, hc1, _⟩ := Kd.xX ho (by simp); have HO := hQ ho; have HB := hQ hb; have HC := hQ hc1; clear ho hb hg_ hat_ hc1))
  exact bodyPost_ret (v := .slice (some ⟨g1, 0, none⟩) 0 c1) (by simp [results, Tryz.results173, go_sem]) rfl ⟨_, rfl, Kd.zcs (m := 0) HO.out (by simp), HB.out⟩
theorem zba {w : World} {g : Nat} {t a b : Int} (h : w.heap[g]? = some (.cells #[.int .i64 t, .int .i64 a, .int .i64 b] 78 (0, 0))) : Kd.C k78 w (some ⟨g, 0, none⟩) 1 [⟨t, a, b⟩] := by
  refine ⟨rfl, by decide, fun _ => ⟨⟨g, 0, none⟩, rfl, fun j p hj => ?_⟩⟩
  obtain ⟨hl, hp⟩ := List.getElem?_eq_some_iff.1 hj
  have hj0 : j = 0 := by simp at hl; omega
  subst hj0
  have hp' : (⟨t, a, b⟩ : S78) = p := hp
  subst hp'
  refine ⟨[.int .i64 t, .int .i64 a, .int .i64 b], rfl, zcV w ⟨t, a, b⟩, fun i u hu => ?_⟩
  have h0 := za h 0
  have h1 := za h 1
  have h2 := za h 2
  match i, hu with
  | 0, hu =>
    obtain rfl := Option.some.inj hu
    exact h0
  | 1, hu =>
    obtain rfl := Option.some.inj hu
    exact h1
  | 2, hu =>
    obtain rfl := Option.some.inj hu
    exact h2
  | i + 3, hu => cases hu
theorem zbm {w : World} {base : Nat} {ok : Nat → Prop} (y : S78) (cs : List Value) (h : k78.K w y cs) : k78.M w base ok y cs := by rw [YJ h]; exact qC _ _ _ y
theorem Jb (w : World) (g gr : Nat) (t a b : Int) (hg : w.heap[g]? = some (.cells #[.slice (some ⟨gr, 0, none⟩) 1 1, .slice none 0 0] 25 (0, 0))) (hr : Kd.C k78 w (some ⟨gr, 0, none⟩) 1 [⟨t, a, b⟩]) :
    Calls Tryz.prog 137 #[.slice (some ⟨g, 0, none⟩) 2 2] w fun e w' => ∃ A c, e = .returned (.slice A 1 c) ∧ Kd.R k78 78 w' w.heap.size (fun _ => True) (.slice A 1 c) [⟨t, a, b⟩] ∧ Below w.heap.size w w' := by
  have x0 := za hg 0
  have x1 := za hg 1
  have x0 : w.cell? ⟨g, 0, none⟩ = some (.slice (some ⟨gr, 0, none⟩) 1 1) := x0
  have x1 : w.cell? ⟨g, 1, none⟩ = some (.slice none 0 0) := x1
  have X := hQ hg
  have C1 := hQ hr
  clear hg hr
  go_enter Tryz.func137, Tryz.ntmps137
  go_wp2_with (fail)
  refine wp_loop_rounds 3 ?_
  rw [rounds_succ]
  go_wp2_with (fail)
  rw [rounds_succ]
  go_wp2_with (fail)
  rw [rounds_succ]
  go_wp2_with (fail)
  refine (KX w).mono ?_
  rintro e w1 ⟨v0, rfl, hv, hb⟩
  have HV := hQ hv
  have HB := hQ hb
  have X1 := hQ (zb X.out hb)
  have y0 : w1.cell? ⟨g, 0, none⟩ = some (.slice (some ⟨gr, 0, none⟩) 1 1) := za X1.out 0
  have y1 : w1.cell? ⟨g, 1, none⟩ = some (.slice none 0 0) := za X1.out 1
  clear hv hb x0 x1
  go_wp2_with (fail)
  refine wp_loop_rounds 3 ?_
  rw [rounds_succ]
  go_wp2_with (first | ((with_reducible refine zZ (b := .append) (xs := #[.tmp 31, .tmp 32]) (ts := #[25, 25]) rfl ?_); refine Kd.yA k78 (w0 := w) w.heap.size rfl (.tmp 31) (.tmp 32) 25 78 (.agg #[(.int .i64 0), (.int .i64 0), (.int .i64 0)]) 24 rfl Tryz.underlying25 qN rfl (by decide) (by omega) v0 [] [⟨t, a, b⟩] (some ⟨gr, 0, none⟩) 1 1 (fun _ => True) (fun _ => False) rfl rfl HV.out (Kd.zz C1.out HB.out) zbm (fun _ h => h.elim) (fun _ _ => trivial) HB.out HB.out.size (by simp) ?_; intro v1 w2 ho hb hg_ hat_; have HO := hQ ho; have HB2 := hQ hb; have X2 := hQ (zb X.out hb); have z0 : w2.cell? ⟨g, 0, none⟩ = _ := za X2.out 0; have z1 : w2.cell? ⟨g, 1, none⟩ = _ := za X2.out 1; clear ho hb hg_ hat_))
  rw [rounds_succ]
  go_wp2_with (first | ((with_reducible refine zZ (b := .append) (xs := #[.tmp 31, .tmp 32]) (ts := #[25, 25]) rfl ?_); refine Kd.yA k78 (w0 := w) w.heap.size rfl (.tmp 31) (.tmp 32) 25 78 (.agg #[(.int .i64 0), (.int .i64 0), (.int .i64 0)]) 24 rfl Tryz.underlying25 qN rfl (by decide) (by omega) v1 [⟨t, a, b⟩] [] (none) 0 0 (fun _ => True) (fun _ => False) rfl rfl HO.out (Kd.jU _ _) zbm (fun _ h => h.elim) (fun _ _ => trivial) HB2.out HB2.out.size (by simp) ?_; intro v2 w3 ho hb hg_ hat_; have HO3 := hQ ho; have HB3 := hQ hb; clear ho hb hg_ hat_))
  rw [rounds_succ]
  go_wp2_with (fail)
  go_wp2
  have ho : Kd.R k78 78 w3 w.heap.size (fun _ => True) v2 [⟨t, a, b⟩] := HO3.out
  obtain ⟨A, c, hv2⟩ := Kd.zX ho
  have hv2' : v2 = .slice A 1 c := hv2
  subst hv2'
  exact bodyPost_ret (v := .slice A 1 c) (by simp [results, Tryz.results137, go_sem]) rfl ⟨A, c, rfl, ho, HB3.out⟩
theorem Jh (w : World) (g gr : Nat) (t a b : Int) (hg : w.heap[g]? = some (.cells #[.slice none 0 0, .slice (some ⟨gr, 0, none⟩) 1 1] 25 (0, 0))) (hr : Kd.C k78 w (some ⟨gr, 0, none⟩) 1 [⟨t, a, b⟩]) :
    Calls Tryz.prog 137 #[.slice (some ⟨g, 0, none⟩) 2 2] w fun e w' => ∃ A c, e = .returned (.slice A 1 c) ∧ Kd.R k78 78 w' w.heap.size (fun _ => True) (.slice A 1 c) [⟨t, a, b⟩] ∧ Below w.heap.size w w' := by
  have x0 := za hg 0
  have x1 := za hg 1
  have x0 : w.cell? ⟨g, 0, none⟩ = some (.slice none 0 0) := x0
  have x1 : w.cell? ⟨g, 1, none⟩ = some (.slice (some ⟨gr, 0, none⟩) 1 1) := x1
  have X := hQ hg
  have C1 := hQ hr
  clear hg hr
  go_enter Tryz.func137, Tryz.ntmps137
  go_wp2_with (fail)
  refine wp_loop_rounds 3 ?_
  rw [rounds_succ]
  go_wp2_with (fail)
  rw [rounds_succ]
  go_wp2_with (fail)
  rw [rounds_succ]
  go_wp2_with (fail)
  refine (KX w).mono ?_
  rintro e w1 ⟨v0, rfl, hv, hb⟩
  have HV := hQ hv
  have HB := hQ hb
  have X1 := hQ (zb X.out hb)
  have y0 : w1.cell? ⟨g, 0, none⟩ = some (.slice none 0 0) := za X1.out 0
  have y1 : w1.cell? ⟨g, 1, none⟩ = some (.slice (some ⟨gr, 0, none⟩) 1 1) := za X1.out 1
  clear hv hb x0 x1
  go_wp2_with (fail)
  refine wp_loop_rounds 3 ?_
  rw [rounds_succ]
  go_wp2_with (first | ((with_reducible refine zZ (b := .append) (xs := #[.tmp 31, .tmp 32]) (ts := #[25, 25]) rfl ?_); refine Kd.yA k78 (w0 := w) w.heap.size rfl (.tmp 31) (.tmp 32) 25 78 (.agg #[(.int .i64 0), (.int .i64 0), (.int .i64 0)]) 24 rfl Tryz.underlying25 qN rfl (by decide) (by omega) v0 [] [] (none) 0 0 (fun _ => True) (fun _ => False) rfl rfl HV.out (Kd.jU _ _) zbm (fun _ h => h.elim) (fun _ _ => trivial) HB.out HB.out.size (by simp) ?_; intro v1 w2 ho hb hg_ hat_; have HO := hQ ho; have HB2 := hQ hb; have X2 := hQ (zb X.out hb); have z0 : w2.cell? ⟨g, 0, none⟩ = _ := za X2.out 0; have z1 : w2.cell? ⟨g, 1, none⟩ = _ := za X2.out 1; clear ho hb hg_ hat_))
  rw [rounds_succ]
  go_wp2_with (first | ((with_reducible refine zZ (b := .append) (xs := #[.tmp 31, .tmp 32]) (ts := #[25, 25]) rfl ?_); refine Kd.yA k78 (w0 := w) w.heap.size rfl (.tmp 31) (.tmp 32) 25 78 (.agg #[(.int .i64 0), (.int .i64 0), (.int .i64 0)]) 24 rfl Tryz.underlying25 qN rfl (by decide) (by omega) v1 [] [⟨t, a, b⟩] (some ⟨gr, 0, none⟩) 1 1 (fun _ => True) (fun _ => False) rfl rfl HO.out (Kd.zz C1.out HB2.out) zbm (fun _ h => h.elim) (fun _ _ => trivial) HB2.out HB2.out.size (by simp) ?_; intro v2 w3 ho hb hg_ hat_; have HO3 := hQ ho; have HB3 := hQ hb; clear ho hb hg_ hat_))
  rw [rounds_succ]
  go_wp2_with (fail)
  go_wp2
  have ho : Kd.R k78 78 w3 w.heap.size (fun _ => True) v2 [⟨t, a, b⟩] := HO3.out
  obtain ⟨A, c, hv2⟩ := Kd.zX ho
  have hv2' : v2 = .slice A 1 c := hv2
  subst hv2'
  exact bodyPost_ret (v := .slice A 1 c) (by simp [results, Tryz.results137, go_sem]) rfl ⟨A, c, rfl, ho, HB3.out⟩
theorem kg (w : World) (f a n v : Int) (A B : Option Addr) (c d : Nat) (hv : 0 ≤ v ∧ v < 65536) :
    Calls Tryz.prog 167 #[.agg #[.int .i64 f, .int .i64 a, .int .i64 n, .int .u16 v, .int .u16 0, .int .u16 0, .slice A 0 c, .slice B 0 d, .int .i64 0, .int .i64 0, .int .i64 0, .int .i64 0]] w fun e w' => e = .returned (.agg #[.int .i64 a, .int .i64 n, .int .i64 v, .int .i64 0, .int .i64 0, .int .i64 0, .int .i64 0, .int .i64 0, .int .i64 0, .int .i64 0, .int .i64 0]) ∧ Below w.heap.size w w' := by
  have hu37 := Tryz.underlying37
  have hu255 := Tryz.underlying255
  have hw : wrap64 v = v := zA (by omega) (by omega)
  clear hv
  go_enter Tryz.func167, Tryz.ntmps167
  go_wp2
  refine bodyPost_ret (v := .agg #[.int .i64 a, .int .i64 n, .int .i64 v, .int .i64 0, .int .i64 0, .int .i64 0, .int .i64 0, .int .i64 0, .int .i64 0, .int .i64 0, .int .i64 0]) ?_ rfl ⟨rfl, ((Below.refl _ _).alloc (Nat.le_refl _) _).alloc (by simp) _⟩
  simp [results, Tryz.results167, go_sem, hu255]
theorem Vu (d : Nat) (a : Int) (w : World) : (Op.equalIn (d + 1) 3 (.int .i64 a) (.int .i64 a)).run Tryz.prog w = .ok true w := by
  rw [run_equalIn_int w d 3 .i64 .i64 a a Tryz.underlying3]; simp
theorem zci (x0 x1 x2 x3 x4 x5 x6 x7 x8 x9 x10 : Int) (w : World) : (Op.equalIn 10000 255 (.agg #[.int .i64 x0, .int .i64 x1, .int .i64 x2, .int .i64 x3, .int .i64 x4, .int .i64 x5, .int .i64 x6, .int .i64 x7, .int .i64 x8, .int .i64 x9, .int .i64 x10]) (.agg #[.int .i64 x0, .int .i64 x1, .int .i64 x2, .int .i64 x3, .int .i64 x4, .int .i64 x5, .int .i64 x6, .int .i64 x7, .int .i64 x8, .int .i64 x9, .int .i64 x10])).run Tryz.prog w = .ok true w := by
  have h3 := Tryz.underlying3
  have h255 := Tryz.underlying255
  rw [show (10000 : Nat) = (9998 + 1) + 1 from rfl]
  have hs : ∀ (w : World), (sizeOf 3).run Tryz.prog w = .ok 1 w := fun w => by kernel_rfl
  rw [Op.equalIn]
  simp only [Sem.run_bind, run_underlying h255, Result.andThen_ok, hs]
  rw [Std.Legacy.Range.forIn_eq_forIn_range']
  rw [show List.range' [:11].start [:11].size [:11].step = [0, 1, 2, 3, 4, 5, 6, 7, 8, 9, 10] from rfl]
  have hp0 : ∀ (w : World), (part 3 #[.int .i64 x0, .int .i64 x1, .int .i64 x2, .int .i64 x3, .int .i64 x4, .int .i64 x5, .int .i64 x6, .int .i64 x7, .int .i64 x8, .int .i64 x9, .int .i64 x10] (0 * 1)).run Tryz.prog w = .ok (.int .i64 x0) w := fun w => by kernel_rfl
  have hp1 : ∀ (w : World), (part 3 #[.int .i64 x0, .int .i64 x1, .int .i64 x2, .int .i64 x3, .int .i64 x4, .int .i64 x5, .int .i64 x6, .int .i64 x7, .int .i64 x8, .int .i64 x9, .int .i64 x10] (1 * 1)).run Tryz.prog w = .ok (.int .i64 x1) w := fun w => by kernel_rfl
  have hp2 : ∀ (w : World), (part 3 #[.int .i64 x0, .int .i64 x1, .int .i64 x2, .int .i64 x3, .int .i64 x4, .int .i64 x5, .int .i64 x6, .int .i64 x7, .int .i64 x8, .int .i64 x9, .int .i64 x10] (2 * 1)).run Tryz.prog w = .ok (.int .i64 x2) w := fun w => by kernel_rfl
  have hp3 : ∀ (w : World), (part 3 #[.int .i64 x0, .int .i64 x1, .int .i64 x2, .int .i64 x3, .int .i64 x4, .int .i64 x5, .int .i64 x6, .int .i64 x7, .int .i64 x8, .int .i64 x9, .int .i64 x10] (3 * 1)).run Tryz.prog w = .ok (.int .i64 x3) w := fun w => by kernel_rfl
  have hp4 : ∀ (w : World), (part 3 #[.int .i64 x0, .int .i64 x1, .int .i64 x2, .int .i64 x3, .int .i64 x4, .int .i64 x5, .int .i64 x6, .int .i64 x7, .int .i64 x8, .int .i64 x9, .int .i64 x10] (4 * 1)).run Tryz.prog w = .ok (.int .i64 x4) w := fun w => by kernel_rfl
  have hp5 : ∀ (w : World), (part 3 #[.int .i64 x0, .int .i64 x1, .int .i64 x2, .int .i64 x3, .int .i64 x4, .int .i64 x5, .int .i64 x6, .int .i64 x7, .int .i64 x8, .int .i64 x9, .int .i64 x10] (5 * 1)).run Tryz.prog w = .ok (.int .i64 x5) w := fun w => by kernel_rfl
  have hp6 : ∀ (w : World), (part 3 #[.int .i64 x0, .int .i64 x1, .int .i64 x2, .int .i64 x3, .int .i64 x4, .int .i64 x5, .int .i64 x6, .int .i64 x7, .int .i64 x8, .int .i64 x9, .int .i64 x10] (6 * 1)).run Tryz.prog w = .ok (.int .i64 x6) w := fun w => by kernel_rfl
  have hp7 : ∀ (w : World), (part 3 #[.int .i64 x0, .int .i64 x1, .int .i64 x2, .int .i64 x3, .int .i64 x4, .int .i64 x5, .int .i64 x6, .int .i64 x7, .int .i64 x8, .int .i64 x9, .int .i64 x10] (7 * 1)).run Tryz.prog w = .ok (.int .i64 x7) w := fun w => by kernel_rfl
  have hp8 : ∀ (w : World), (part 3 #[.int .i64 x0, .int .i64 x1, .int .i64 x2, .int .i64 x3, .int .i64 x4, .int .i64 x5, .int .i64 x6, .int .i64 x7, .int .i64 x8, .int .i64 x9, .int .i64 x10] (8 * 1)).run Tryz.prog w = .ok (.int .i64 x8) w := fun w => by kernel_rfl
  have hp9 : ∀ (w : World), (part 3 #[.int .i64 x0, .int .i64 x1, .int .i64 x2, .int .i64 x3, .int .i64 x4, .int .i64 x5, .int .i64 x6, .int .i64 x7, .int .i64 x8, .int .i64 x9, .int .i64 x10] (9 * 1)).run Tryz.prog w = .ok (.int .i64 x9) w := fun w => by kernel_rfl
  have hp10 : ∀ (w : World), (part 3 #[.int .i64 x0, .int .i64 x1, .int .i64 x2, .int .i64 x3, .int .i64 x4, .int .i64 x5, .int .i64 x6, .int .i64 x7, .int .i64 x8, .int .i64 x9, .int .i64 x10] (10 * 1)).run Tryz.prog w = .ok (.int .i64 x10) w := fun w => by kernel_rfl
  simp only [List.forIn_cons, List.forIn_nil, Sem.run_bind, Result.andThen_ok, Vu, hp0, hp1, hp2, hp3, hp4, hp5, hp6, hp7, hp8, hp9, hp10, Bool.not_true, Bool.false_eq_true, if_false, Sem.run_pure]
def qy (a n : Int) : Array Value := #[.int .i64 3, .int .i64 a, .int .i64 n, .int .u16 0, .int .u16 0, .int .u16 0, .slice none 0 0, .slice none 0 0, .int .i64 0, .int .i64 0, .int .i64 0, .int .i64 0]
theorem jC (w : World) (a n : Int) (ha : 0 ≤ a ∧ a < 256) (hn : 1 ≤ n ∧ n ≤ 125) :
    Calls Tryz.prog 134 #[jf a n] w fun e w' => e = .returned (.bool true) ∧ Below w.heap.size w w' := by
  have hu37 := Tryz.underlying37
  have hu255 := Tryz.underlying255
  have heq : ∀ W : World, (Op.equalIn 10000 255 (.agg #[.int .i64 a, .int .i64 n, .int .i64 0, .int .i64 0, .int .i64 0, .int .i64 0, .int .i64 0, .int .i64 0, .int .i64 0, .int .i64 0, .int .i64 0]) (.agg #[.int .i64 a, .int .i64 n, .int .i64 0, .int .i64 0, .int .i64 0, .int .i64 0, .int .i64 0, .int .i64 0, .int .i64 0, .int .i64 0, .int .i64 0])).run Tryz.prog W = .ok true W := fun W => zci a n 0 0 0 0 0 0 0 0 0 W
  have hb1 : Below w.heap.size w ((w.alloc (.cells (qy a n) 37)).drew) := ((Below.refl _ _).alloc (Nat.le_refl _) _).trans (zk (Below.refl _ _))
  have B2 := hQ hb1
  have X2 := hQ (zb (zi w (.cells (qy a n) 37 (0, 0))) (zk (Below.refl _ _)))
  have HA := hQ ha
  have HN := hQ hn
  clear ha hn hb1
  simp only [jf]
  go_enter Tryz.func134, Tryz.ntmps134
  go_wp2_with (fail)
  refine sq_ (ds := []) #[false, false, false, false, false, false, false, false, false, false, false, false, false, false, false, false, false, false, false, false, false, false, false, false] (fun w' => w'.cell? ⟨w.heap.size, 0, none⟩ = some (.int .i64 3) ∧ w'.cell? ⟨w.heap.size, 1, none⟩ = some (.int .i64 a) ∧ w'.cell? ⟨w.heap.size, 2, none⟩ = some (.int .i64 n) ∧ w'.cell? ⟨w.heap.size, 3, none⟩ = some (.int .u16 0) ∧ w'.cell? ⟨w.heap.size, 4, none⟩ = some (.int .u16 0) ∧ w'.cell? ⟨w.heap.size, 5, none⟩ = some (.int .u16 0) ∧ w'.cell? ⟨w.heap.size, 6, none⟩ = some (.slice none 0 0) ∧ w'.cell? ⟨w.heap.size, 7, none⟩ = some (.slice none 0 0) ∧ w'.cell? ⟨w.heap.size, 8, none⟩ = some (.int .i64 0) ∧ w'.cell? ⟨w.heap.size, 9, none⟩ = some (.int .i64 0) ∧ w'.cell? ⟨w.heap.size, 10, none⟩ = some (.int .i64 0) ∧ w'.cell? ⟨w.heap.size, 11, none⟩ = some (.int .i64 0)) ⟨za X2.out 0, za X2.out 1, za X2.out 2, za X2.out 3, za X2.out 4, za X2.out 5, za X2.out 6, za X2.out 7, za X2.out 8, za X2.out 9, za X2.out 10, za X2.out 11⟩ (fun hHeld => ?_)
  refine pq_ 0 (some 5) ?_
  refine tq_ 1 (some 6) hHeld ?_
  refine oq_ 2 (some 7) (fun K hK => ?_)
  refine yo Tryz.func132 (by kernel_rfl) rfl #[.int .i64 3] (by rfl) rfl rfl (by (try simp only [List.map_toArray, List.map_cons, List.map_nil]); first | done | rfl) ?_
  refine (QE _).mono ?_
  rintro e w3 ⟨rfl, hd⟩
  refine ⟨_, rfl, ?_⟩
  have B3 := hQ (ze B2.out B2.out.size hd.below)
  have X3 := hQ (zb X2.out hd.below)
  clear hd
  refine hK.out _ _ ⟨za X3.out 0, za X3.out 1, za X3.out 2, za X3.out 3, za X3.out 4, za X3.out 5, za X3.out 6, za X3.out 7, za X3.out 8, za X3.out 9, za X3.out 10, za X3.out 11⟩ (fun hHeld => ?_)
  clear hK K
  refine nq_ ?_
  refine pq_ 3 (some 8) ?_
  refine pq_ 4 (some 9) ?_
  refine tq_ 5 (some 10) hHeld ?_
  refine tq_ 7 (some 12) hHeld ?_
  refine oq_ 6 (some 11) (fun K hK => ?_)
  refine yo Tryz.func167 (by kernel_rfl) rfl #[.agg #[.int .i64 3, .int .i64 a, .int .i64 n, .int .u16 0, .int .u16 0, .int .u16 0, .slice none 0 0, .slice none 0 0, .int .i64 0, .int .i64 0, .int .i64 0, .int .i64 0]] (by rfl) rfl rfl (by (try simp only [List.map_toArray, List.map_cons, List.map_nil]); first | done | rfl) ?_
  refine (kg _ 3 a n 0 none none 0 0 (by omega)).mono ?_
  rintro e w4 ⟨rfl, hb⟩
  refine ⟨_, rfl, ?_⟩
  have B4 := hQ (ze B3.out B3.out.size hb)
  have X4 := hQ (zb X3.out hb)
  clear hb
  refine hK.out _ _ ⟨za X4.out 0, za X4.out 1, za X4.out 2, za X4.out 3, za X4.out 4, za X4.out 5, za X4.out 6, za X4.out 7, za X4.out 8, za X4.out 9, za X4.out 10, za X4.out 11⟩ (fun hHeld => ?_)
  clear hK K
  refine nq_ ?_
  refine oq_ 8 (some 13) (fun K hK => ?_)
  refine yo Tryz.func168 (by kernel_rfl) rfl #[.agg #[.int .i64 3, .int .i64 a, .int .i64 n, .int .u16 0, .int .u16 0, .int .u16 0, .slice none 0 0, .slice none 0 0, .int .i64 0, .int .i64 0, .int .i64 0, .int .i64 0]] (by rfl) rfl rfl (by (try simp only [List.map_toArray, List.map_cons, List.map_nil]); first | done | rfl) ?_
  refine (zct _ a n).mono ?_
  rintro e w5 ⟨rfl, hb⟩
  refine ⟨_, rfl, ?_⟩
  have B5 := hQ (ze B4.out B4.out.size hb)
  have X5 := hQ (zb X4.out hb)
  clear hb
  refine hK.out _ _ ⟨za X5.out 0, za X5.out 1, za X5.out 2, za X5.out 3, za X5.out 4, za X5.out 5, za X5.out 6, za X5.out 7, za X5.out 8, za X5.out 9, za X5.out 10, za X5.out 11⟩ (fun hHeld => ?_)
  clear hK K
  refine nq_ ?_
  refine oq_ 9 (some 14) (fun K hK => ?_)
  refine yo Tryz.func167 (by kernel_rfl) rfl #[.agg #[.int .i64 3, .int .i64 a, .int .i64 n, .int .u16 0, .int .u16 0, .int .u16 0, .slice none 0 0, .slice none 0 0, .int .i64 0, .int .i64 0, .int .i64 0, .int .i64 0]] (by rfl) rfl rfl (by (try simp only [List.map_toArray, List.map_cons, List.map_nil]); first | done | rfl) ?_
  refine (kg _ 3 a n 0 none none 0 0 (by omega)).mono ?_
  rintro e w6 ⟨rfl, hb⟩
  refine ⟨_, rfl, ?_⟩
  have B6 := hQ (ze B5.out B5.out.size hb)
  have X6 := hQ (zb X5.out hb)
  clear hb
  refine hK.out _ _ ⟨za X6.out 0, za X6.out 1, za X6.out 2, za X6.out 3, za X6.out 4, za X6.out 5, za X6.out 6, za X6.out 7, za X6.out 8, za X6.out 9, za X6.out 10, za X6.out 11⟩ (fun hHeld => ?_)
  clear hK K
  refine nq_ ?_
  refine pq_ 10 (some 15) ?_
  refine pq_ 11 (some 16) ?_
  refine pq_ 12 (some 17) ?_
  refine pq_ 13 (some 18) ?_
  refine tq_ 14 (some 19) hHeld ?_
  refine oq_ 15 (some 20) (fun K hK => ?_)
  refine yo Tryz.func169 (by kernel_rfl) rfl #[.int .i64 a] (by rfl) rfl rfl (by (try simp only [List.map_toArray, List.map_cons, List.map_nil]); first | done | rfl) ?_
  refine (Vl _ a HA.out).mono ?_
  rintro e w7 ⟨rfl, hd⟩
  refine ⟨_, rfl, ?_⟩
  have B7 := hQ (ze B6.out B6.out.size hd.below)
  have X7 := hQ (zb X6.out hd.below)
  clear hd
  refine hK.out _ _ ⟨za X7.out 0, za X7.out 1, za X7.out 2, za X7.out 3, za X7.out 4, za X7.out 5, za X7.out 6, za X7.out 7, za X7.out 8, za X7.out 9, za X7.out 10, za X7.out 11⟩ (fun hHeld => ?_)
  clear hK K
  refine nq_ ?_
  refine pq_ 16 (some 21) ?_
  refine pq_ 17 (some 22) ?_
  refine pq_ 18 (some 23) ?_
  refine pq_ 19 (some 24) ?_
  refine tq_ 20 (some 25) hHeld ?_
  refine oq_ 21 (some 26) (fun K hK => ?_)
  refine yo Tryz.func169 (by kernel_rfl) rfl #[.int .i64 0] (by rfl) rfl rfl (by (try simp only [List.map_toArray, List.map_cons, List.map_nil]); first | done | rfl) ?_
  refine (Vl _ 0 (by omega)).mono ?_
  rintro e w8 ⟨rfl, hd⟩
  refine ⟨_, rfl, ?_⟩
  have B8 := hQ (ze B7.out B7.out.size hd.below)
  have X8 := hQ (zb X7.out hd.below)
  clear hd
  refine hK.out _ _ ⟨za X8.out 0, za X8.out 1, za X8.out 2, za X8.out 3, za X8.out 4, za X8.out 5, za X8.out 6, za X8.out 7, za X8.out 8, za X8.out 9, za X8.out 10, za X8.out 11⟩ (fun hHeld => ?_)
  clear hK K
  refine nq_ ?_
  refine pq_ 22 (some 27) ?_
  refine pq_ 23 (some 28) ?_
  refine xP (by kernel_rfl) ?_
  --ENDR
  go_wp2_with (fail)
  refine (zav _).mono ?_
  rintro e w9 ⟨rfl, hd⟩
  have B9 := hQ (ze B8.out B8.out.size hd.below)
  have X9 := hQ (zb X8.out hd.below)
  clear hd
  obtain ⟨x0, x1, x2, x3, x4, x5, x6, x7, x8, x9, x10, x11⟩ := zW X9.out
  go_wp2_with (fail)
  refine (zbz _ n HN.out).mono ?_
  rintro e w10 ⟨rfl, hd⟩
  have B10 := hQ (ze B9.out B9.out.size hd.below)
  clear hd
  go_wp2
  exact bodyPost_ret (v := .bool true) (by simp [results, Tryz.results134, go_sem]) rfl ⟨rfl, B10.out⟩
def xB (a v : Int) : Array Value := #[.int .i64 6, .int .i64 a, .int .i64 0, .int .u16 v, .int .u16 0, .int .u16 0, .slice none 0 0, .slice none 0 0, .int .i64 0, .int .i64 0, .int .i64 0, .int .i64 0]
theorem qU (w : World) (a v : Int) (ha : 0 ≤ a ∧ a < 256) (hn : 0 ≤ v ∧ v < 65536) :
    Calls Tryz.prog 134 #[qd a v] w fun e w' => e = .returned (.bool true) ∧ Below w.heap.size w w' := by
  have hu37 := Tryz.underlying37
  have hu255 := Tryz.underlying255
  have heq : ∀ W : World, (Op.equalIn 10000 255 (.agg #[.int .i64 a, .int .i64 0, .int .i64 v, .int .i64 0, .int .i64 0, .int .i64 0, .int .i64 0, .int .i64 0, .int .i64 0, .int .i64 0, .int .i64 0]) (.agg #[.int .i64 a, .int .i64 0, .int .i64 v, .int .i64 0, .int .i64 0, .int .i64 0, .int .i64 0, .int .i64 0, .int .i64 0, .int .i64 0, .int .i64 0])).run Tryz.prog W = .ok true W := fun W => zci a 0 v 0 0 0 0 0 0 0 0 W
  have hb1 : Below w.heap.size w ((w.alloc (.cells (xB a v) 37)).drew) := ((Below.refl _ _).alloc (Nat.le_refl _) _).trans (zk (Below.refl _ _))
  have B2 := hQ hb1
  have X2 := hQ (zb (zi w (.cells (xB a v) 37 (0, 0))) (zk (Below.refl _ _)))
  have HA := hQ ha
  have HV := hQ hn
  clear ha hn hb1
  simp only [qd]
  go_enter Tryz.func134, Tryz.ntmps134
  go_wp2_with (fail)
  refine sq_ (ds := []) #[false, false, false, false, false, false, false, false, false, false, false, false, false, false, false, false, false, false, false, false, false, false, false, false] (fun w' => w'.cell? ⟨w.heap.size, 0, none⟩ = some (.int .i64 6) ∧ w'.cell? ⟨w.heap.size, 1, none⟩ = some (.int .i64 a) ∧ w'.cell? ⟨w.heap.size, 2, none⟩ = some (.int .i64 0) ∧ w'.cell? ⟨w.heap.size, 3, none⟩ = some (.int .u16 v) ∧ w'.cell? ⟨w.heap.size, 4, none⟩ = some (.int .u16 0) ∧ w'.cell? ⟨w.heap.size, 5, none⟩ = some (.int .u16 0) ∧ w'.cell? ⟨w.heap.size, 6, none⟩ = some (.slice none 0 0) ∧ w'.cell? ⟨w.heap.size, 7, none⟩ = some (.slice none 0 0) ∧ w'.cell? ⟨w.heap.size, 8, none⟩ = some (.int .i64 0) ∧ w'.cell? ⟨w.heap.size, 9, none⟩ = some (.int .i64 0) ∧ w'.cell? ⟨w.heap.size, 10, none⟩ = some (.int .i64 0) ∧ w'.cell? ⟨w.heap.size, 11, none⟩ = some (.int .i64 0)) ⟨za X2.out 0, za X2.out 1, za X2.out 2, za X2.out 3, za X2.out 4, za X2.out 5, za X2.out 6, za X2.out 7, za X2.out 8, za X2.out 9, za X2.out 10, za X2.out 11⟩ (fun hHeld => ?_)
  refine pq_ 0 (some 5) ?_
  refine tq_ 1 (some 6) hHeld ?_
  refine oq_ 2 (some 7) (fun K hK => ?_)
  refine yo Tryz.func132 (by kernel_rfl) rfl #[.int .i64 6] (by rfl) rfl rfl (by (try simp only [List.map_toArray, List.map_cons, List.map_nil]); first | done | rfl) ?_
  refine (Qz _).mono ?_
  rintro e w3 ⟨rfl, hd⟩
  refine ⟨_, rfl, ?_⟩
  have B3 := hQ (ze B2.out B2.out.size hd.below)
  have X3 := hQ (zb X2.out hd.below)
  clear hd
  refine hK.out _ _ ⟨za X3.out 0, za X3.out 1, za X3.out 2, za X3.out 3, za X3.out 4, za X3.out 5, za X3.out 6, za X3.out 7, za X3.out 8, za X3.out 9, za X3.out 10, za X3.out 11⟩ (fun hHeld => ?_)
  clear hK K
  refine nq_ ?_
  refine pq_ 3 (some 8) ?_
  refine pq_ 4 (some 9) ?_
  refine tq_ 5 (some 10) hHeld ?_
  refine tq_ 7 (some 12) hHeld ?_
  refine oq_ 6 (some 11) (fun K hK => ?_)
  refine yo Tryz.func167 (by kernel_rfl) rfl #[.agg #[.int .i64 6, .int .i64 a, .int .i64 0, .int .u16 v, .int .u16 0, .int .u16 0, .slice none 0 0, .slice none 0 0, .int .i64 0, .int .i64 0, .int .i64 0, .int .i64 0]] (by rfl) rfl rfl (by (try simp only [List.map_toArray, List.map_cons, List.map_nil]); first | done | rfl) ?_
  refine (kg _ 6 a 0 v none none 0 0 HV.out).mono ?_
  rintro e w4 ⟨rfl, hb⟩
  refine ⟨_, rfl, ?_⟩
  have B4 := hQ (ze B3.out B3.out.size hb)
  have X4 := hQ (zb X3.out hb)
  clear hb
  refine hK.out _ _ ⟨za X4.out 0, za X4.out 1, za X4.out 2, za X4.out 3, za X4.out 4, za X4.out 5, za X4.out 6, za X4.out 7, za X4.out 8, za X4.out 9, za X4.out 10, za X4.out 11⟩ (fun hHeld => ?_)
  clear hK K
  refine nq_ ?_
  refine oq_ 8 (some 13) (fun K hK => ?_)
  refine yo Tryz.func168 (by kernel_rfl) rfl #[.agg #[.int .i64 6, .int .i64 a, .int .i64 0, .int .u16 v, .int .u16 0, .int .u16 0, .slice none 0 0, .slice none 0 0, .int .i64 0, .int .i64 0, .int .i64 0, .int .i64 0]] (by rfl) rfl rfl (by (try simp only [List.map_toArray, List.map_cons, List.map_nil]); first | done | rfl) ?_
  refine (zcG _ a v).mono ?_
  rintro e w5 ⟨rfl, hb⟩
  refine ⟨_, rfl, ?_⟩
  have B5 := hQ (ze B4.out B4.out.size hb)
  have X5 := hQ (zb X4.out hb)
  clear hb
  refine hK.out _ _ ⟨za X5.out 0, za X5.out 1, za X5.out 2, za X5.out 3, za X5.out 4, za X5.out 5, za X5.out 6, za X5.out 7, za X5.out 8, za X5.out 9, za X5.out 10, za X5.out 11⟩ (fun hHeld => ?_)
  clear hK K
  refine nq_ ?_
  refine oq_ 9 (some 14) (fun K hK => ?_)
  refine yo Tryz.func167 (by kernel_rfl) rfl #[.agg #[.int .i64 6, .int .i64 a, .int .i64 0, .int .u16 v, .int .u16 0, .int .u16 0, .slice none 0 0, .slice none 0 0, .int .i64 0, .int .i64 0, .int .i64 0, .int .i64 0]] (by rfl) rfl rfl (by (try simp only [List.map_toArray, List.map_cons, List.map_nil]); first | done | rfl) ?_
  refine (kg _ 6 a 0 v none none 0 0 HV.out).mono ?_
  rintro e w6 ⟨rfl, hb⟩
  refine ⟨_, rfl, ?_⟩
  have B6 := hQ (ze B5.out B5.out.size hb)
  have X6 := hQ (zb X5.out hb)
  clear hb
  refine hK.out _ _ ⟨za X6.out 0, za X6.out 1, za X6.out 2, za X6.out 3, za X6.out 4, za X6.out 5, za X6.out 6, za X6.out 7, za X6.out 8, za X6.out 9, za X6.out 10, za X6.out 11⟩ (fun hHeld => ?_)
  clear hK K
  refine nq_ ?_
  refine pq_ 10 (some 15) ?_
  refine pq_ 11 (some 16) ?_
  refine pq_ 12 (some 17) ?_
  refine pq_ 13 (some 18) ?_
  refine tq_ 14 (some 19) hHeld ?_
  refine oq_ 15 (some 20) (fun K hK => ?_)
  refine yo Tryz.func169 (by kernel_rfl) rfl #[.int .i64 a] (by rfl) rfl rfl (by (try simp only [List.map_toArray, List.map_cons, List.map_nil]); first | done | rfl) ?_
  refine (Vl _ a HA.out).mono ?_
  rintro e w7 ⟨rfl, hd⟩
  refine ⟨_, rfl, ?_⟩
  have B7 := hQ (ze B6.out B6.out.size hd.below)
  have X7 := hQ (zb X6.out hd.below)
  clear hd
  refine hK.out _ _ ⟨za X7.out 0, za X7.out 1, za X7.out 2, za X7.out 3, za X7.out 4, za X7.out 5, za X7.out 6, za X7.out 7, za X7.out 8, za X7.out 9, za X7.out 10, za X7.out 11⟩ (fun hHeld => ?_)
  clear hK K
  refine nq_ ?_
  refine pq_ 16 (some 21) ?_
  refine pq_ 17 (some 22) ?_
  refine pq_ 18 (some 23) ?_
  refine pq_ 19 (some 24) ?_
  refine tq_ 20 (some 25) hHeld ?_
  refine oq_ 21 (some 26) (fun K hK => ?_)
  refine yo Tryz.func169 (by kernel_rfl) rfl #[.int .i64 0] (by rfl) rfl rfl (by (try simp only [List.map_toArray, List.map_cons, List.map_nil]); first | done | rfl) ?_
  refine (Vl _ 0 (by omega)).mono ?_
  rintro e w8 ⟨rfl, hd⟩
  refine ⟨_, rfl, ?_⟩
  have B8 := hQ (ze B7.out B7.out.size hd.below)
  have X8 := hQ (zb X7.out hd.below)
  clear hd
  refine hK.out _ _ ⟨za X8.out 0, za X8.out 1, za X8.out 2, za X8.out 3, za X8.out 4, za X8.out 5, za X8.out 6, za X8.out 7, za X8.out 8, za X8.out 9, za X8.out 10, za X8.out 11⟩ (fun hHeld => ?_)
  clear hK K
  refine nq_ ?_
  refine pq_ 22 (some 27) ?_
  refine pq_ 23 (some 28) ?_
  refine xP (by kernel_rfl) ?_
  --ENDW
  go_wp2_with (fail)
  refine (za1 _).mono ?_
  rintro e w9 ⟨rfl, hd⟩
  have B9 := hQ (ze B8.out B8.out.size hd.below)
  have X9 := hQ (zb X8.out hd.below)
  clear hd
  obtain ⟨x0, x1, x2, x3, x4, x5, x6, x7, x8, x9, x10, x11⟩ := zW X9.out
  go_wp2
  exact bodyPost_ret (v := .bool true) (by simp [results, Tryz.results134, go_sem]) rfl ⟨rfl, B9.out⟩
def vV (a b : Int) : Obj := .cells #[.int .i64 2, .int .i64 a, .int .i64 b] 78 (0, 0)
theorem Yc (w : World) (a n : Int) (ha : 0 ≤ a ∧ a < 256) (hn : 1 ≤ n ∧ n ≤ 125) :
    Calls Tryz.prog 136 #[jf a n] w fun e w' => ∃ g, e = .returned (.tuple #[.slice (some ⟨g, 0, none⟩) 1 1, .slice none 0 0]) ∧ w'.heap[g]? = some (vV a (a + n)) ∧ w.heap.size ≤ g ∧ Below w.heap.size w w' := by
  have hu37 := Tryz.underlying37
  have hb1 : Below w.heap.size w (w.alloc (.cells (qy a n) 37)) := (Below.refl _ _).alloc (Nat.le_refl _) _
  have B1 := hQ hb1
  have X1 := hQ (zi w (.cells (qy a n) 37 (0, 0)))
  have HA := hQ ha
  have HN := hQ hn
  have hw : wrap64 (a + n) = a + n := zA (by omega) (by omega)
  clear ha hn hb1
  simp only [jf]
  go_enter Tryz.func136, Tryz.ntmps136
  go_wp2_with (fail)
  refine (jC _ a n HA.out HN.out).mono ?_
  rintro e w2 ⟨rfl, hb⟩
  have B2 := hQ (ze B1.out B1.out.size hb)
  have X2 := hQ (zb X1.out hb)
  clear hb
  obtain ⟨x0, x1, x2, x3, x4, x5, x6, x7, x8, x9, x10, x11⟩ := zW X2.out
  go_wp2_with (fail)
  refine (zbn _).mono ?_
  rintro e w3 ⟨rfl, hd⟩
  have B3 := hQ (ze B2.out B2.out.size hd.below)
  have X3 := hQ (zb X2.out hd.below)
  clear hd x0 x1 x2 x3 x4 x5 x6 x7 x8 x9 x10 x11
  obtain ⟨x0, x1, x2, x3, x4, x5, x6, x7, x8, x9, x10, x11⟩ := zW X3.out
  obtain ⟨W4, hW4⟩ : ∃ W4, W4 = w3.alloc (vV a (a + n)) := ⟨_, rfl⟩
  have hb4 : Below w3.heap.size w3 W4 := by rw [hW4]; exact (Below.refl _ _).alloc (Nat.le_refl _) _
  have y0 : (w3.alloc (vV a (a + n))).cell? ⟨w.heap.size, 0, none⟩ = some (.int .i64 3) := by rw [← hW4]; exact za (zb X3.out hb4) 0
  have G4 := hQ (show W4.heap[w3.heap.size]? = some (vV a (a + n)) by rw [hW4]; exact zi w3 _)
  have B4 := hQ (ze B3.out B3.out.size hb4)
  rw [hW4] at G4 B4
  clear hb4 hW4
  simp only [vV] at y0
  go_wp2
  exact bodyPost_ret (v := .tuple #[.slice (some ⟨w3.heap.size, 0, none⟩) 1 1, .slice none 0 0]) (by simp [results, Tryz.results136, go_sem]) rfl ⟨w3.heap.size, rfl, G4.out, B3.out.size, B4.out⟩
theorem Yi (w : World) (a v : Int) (ha : 0 ≤ a ∧ a < 256) (hn : 0 ≤ v ∧ v < 65536) :
    Calls Tryz.prog 136 #[qd a v] w fun e w' => ∃ g, e = .returned (.tuple #[.slice none 0 0, .slice (some ⟨g, 0, none⟩) 1 1]) ∧ w'.heap[g]? = some (vV a (a + 1)) ∧ w.heap.size ≤ g ∧ Below w.heap.size w w' := by
  have hu37 := Tryz.underlying37
  have hb1 : Below w.heap.size w (w.alloc (.cells (xB a v) 37)) := (Below.refl _ _).alloc (Nat.le_refl _) _
  have B1 := hQ hb1
  have X1 := hQ (zi w (.cells (xB a v) 37 (0, 0)))
  have HA := hQ ha
  have HN := hQ hn
  have hw : wrap64 (a + 1) = a + 1 := zA (by omega) (by omega)
  clear ha hn hb1
  simp only [qd]
  go_enter Tryz.func136, Tryz.ntmps136
  go_wp2_with (fail)
  refine (qU _ a v HA.out HN.out).mono ?_
  rintro e w2 ⟨rfl, hb⟩
  have B2 := hQ (ze B1.out B1.out.size hb)
  have X2 := hQ (zb X1.out hb)
  clear hb
  obtain ⟨x0, x1, x2, x3, x4, x5, x6, x7, x8, x9, x10, x11⟩ := zW X2.out
  go_wp2_with (fail)
  refine (zcb _).mono ?_
  rintro e w3 ⟨rfl, hd⟩
  have B3 := hQ (ze B2.out B2.out.size hd.below)
  have X3 := hQ (zb X2.out hd.below)
  clear hd x0 x1 x2 x3 x4 x5 x6 x7 x8 x9 x10 x11
  obtain ⟨x0, x1, x2, x3, x4, x5, x6, x7, x8, x9, x10, x11⟩ := zW X3.out
  obtain ⟨W4, hW4⟩ : ∃ W4, W4 = w3.alloc (vV a (a + 0)) := ⟨_, rfl⟩
  have hb4 : Below w3.heap.size w3 W4 := by rw [hW4]; exact (Below.refl _ _).alloc (Nat.le_refl _) _
  have B4 := hQ (ze B3.out B3.out.size hb4)
  have X4 := hQ (zb X3.out hb4)
  have hz : W4.heap.size = w3.heap.size + 1 := by rw [hW4]; simp
  obtain ⟨y0, y1, y2, y3, y4, y5, y6, y7, y8, y9, y10, y11⟩ := zW X4.out
  obtain ⟨W5, hW5⟩ : ∃ W5, W5 = W4.alloc (vV a (a + 1)) := ⟨_, rfl⟩
  have hb5 : Below W4.heap.size W4 W5 := by rw [hW5]; exact (Below.refl _ _).alloc (Nat.le_refl _) _
  have G5 := hQ (show W5.heap[W4.heap.size]? = some (vV a (a + 1)) by rw [hW5]; exact zi W4 _)
  have B5 := hQ (ze B4.out B4.out.size hb5)
  have hw0 : wrap64 (a + 0) = a + 0 := zA (by have := HA.out; omega) (by have := HA.out; omega)
  have SZ := hQ (show w.heap.size ≤ w3.heap.size + 1 from Nat.le_succ_of_le B3.out.size)
  rw [hz] at G5
  rw [hW5, hW4] at G5 B5
  rw [hW4] at y0 y1 y2 y3 y4 y5 y6 y7 y8 y9 y10 y11
  clear hb4 hW4 hb5 hW5 hz B4 X4
  simp only [vV, Int.add_zero] at y0 y1 y2 y3 y4 y5 y6 y7 y8 y9 y10 y11 G5 B5 hw0
  go_wp2
  exact bodyPost_ret (v := .tuple #[.slice none 0 0, .slice (some ⟨w3.heap.size + 1, 0, none⟩) 1 1]) (by simp [results, Tryz.results136, go_sem]) rfl ⟨w3.heap.size + 1, rfl, G5.out, SZ.out, B5.out⟩
end Go.Proofs.YtlalbohhopmpdaaGreat.Top
