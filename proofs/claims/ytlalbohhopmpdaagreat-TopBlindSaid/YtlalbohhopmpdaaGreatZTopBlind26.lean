/- Words and walks for TopBlind (made of the session's own texts; each part by itself). -/
import Derived.Deep.DeepCutAuto
import Derived.Deep.DeepMust
import Derived.Deep.RegionLaw
import Derived.RegionTactic
import Derived.ChangeAlike
import Derived.Outline
import Derived.Lib.Hide
import Derived.WalkSpells
import Derived.Test.YtlalbohhopmpdaaGreatZTopBlind25
set_option maxRecDepth 100000
set_option maxHeartbeats 8000000
set_option linter.unusedVariables false
set_option linter.unusedSimpArgs false
namespace Go.Proofs.YtlalbohhopmpdaaGreat.Top
open Go.RowKit Go.Proofs.YtlalbohhopmpdaaGreat.PTop Go.YW.PrintWords Go.YW.PrintLast Go.YW.PrintMore Go.Proofs.YtlalbohhopmpdaaGreat.Num
attribute [local go_sem] zk zo
theorem XZ (w : World) (B N : Nat) (x : Ix) (g : Sg) (gb dk : Nat) (L : Nat → Nat → Nat) (h : zR w B N x g gb dk 0 L (fun _ => []) (fun _ => [])) (hgb : B ≤ gb) (hdk : B ≤ dk) :
    Calls Tryz.prog 15 #[.pointer (some ⟨gb, 0, none⟩), .agg #[.int .i64 1, .int .i64 0, .int .i64 0, .slice none 0 0, .int .i64 0, .int .i64 0, .slice none 0 0]] w fun e w' => e = .returned (.agg #[.bool true, .int .i64 0, .slice none 0 0]) ∧ (∃ L', zR w' B N x g gb dk 1 L' (fun _ => []) (fun _ => [])) ∧ Ch TG (MS x) B w w' := by
  have hu64 := Tryz.underlying64
  have hu61 := Tryz.underlying61
  have B1 := hQ (show Below w.heap.size w ((w.alloc (.cells #[.int .i64 1, .int .i64 0, .int .i64 0, .slice none 0 0, .int .i64 0, .int .i64 0, .slice none 0 0] 64)).alloc (.cells #[.bool false, .int .i64 0, .slice none 0 0] 61)) from ((Below.refl _ _).alloc (Nat.le_refl _) _).alloc (by simp) _)
  have Y1 := hQ (zg (zi w (.cells #[.int .i64 1, .int .i64 0, .int .i64 0, .slice none 0 0, .int .i64 0, .int .i64 0, .slice none 0 0] 64)) (.cells #[.bool false, .int .i64 0, .slice none 0 0] 61))
  have X1 := hQ (yS w (.cells #[.int .i64 1, .int .i64 0, .int .i64 0, .slice none 0 0, .int .i64 0, .int .i64 0, .slice none 0 0] 64) (.cells #[.bool false, .int .i64 0, .slice none 0 0] 61))
  have L1 := hQ (xx.mk' h B1.out X1.out X1.out (by omega) (by omega) (by decide) (by decide))
  have HI := Jm _ B N x g gb dk L L1.out.gt hgb hdk
  clear h
  obtain ⟨y0, y1, y2, y3, y4, y5, y6⟩ := Wq Y1.out
  go_enter Tryz.func15, Tryz.ntmps15
  go_wp2_with (fail)
  refine HI.mono ?_
  rintro e w3 ⟨rfl, ⟨L', hg3⟩, hc3⟩
  have X3 := hQ (hc3.cell X1.out (by decide))
  have L3 := hQ (show xx B N x g gb dk 1 L' (fun _ => []) (fun _ => []) w w3 (w.heap.size + 1) (w.heap.size + 1) from ⟨hg3, L1.out.ch.trans hc3, L1.out.le, ⟨_, _, _, X3.out, by decide⟩, ⟨_, _, _, X3.out, by decide⟩, by omega, by omega⟩)
  clear hg3 hc3
  obtain ⟨x0, x1, x2⟩ := kV X3.out
  have fx : ∀ i, w3.frozen? ⟨w.heap.size + 1, i, none⟩ = false := fun i => zh X3.out i
  go_wp2
  refine bodyPost_ret (v := .agg #[.bool true, .int .i64 0, .slice none 0 0]) ?_ rfl ⟨rfl, ?_⟩
  · simp [results, Tryz.results15, go_sem, hu61, x0, x1, x2]
  · have hfin : ∀ W : World, xx B N x g gb dk 1 L' (fun _ => []) (fun _ => []) w W (w.heap.size + 1) (w.heap.size + 1) → (∃ L', zR W B N x g gb dk 1 L' (fun _ => []) (fun _ => [])) ∧ Ch TG (MS x) B w W := fun W hW => ⟨⟨_, hW.gt⟩, hW.ch⟩
    refine hfin _ ?_
    repeat (with_reducible first | exact L3.out | (refine xx.set ?_ (Or.inl rfl)))
theorem XU (w : World) (B N : Nat) (x : Ix) (g : Sg) (gb dk : Nat) (L : Nat → Nat → Nat) (h : zR w B N x g gb dk 1 L (fun _ => []) (fun _ => [])) (hgb : B ≤ gb) (hdk : B ≤ dk) :
    Calls Tryz.prog 15 #[.pointer (some ⟨gb, 0, none⟩), .agg #[.int .i64 1, .int .i64 0, .int .i64 0, .slice none 0 0, .int .i64 0, .int .i64 0, .slice none 0 0]] w fun e w' => e = .returned (.agg #[.bool true, .int .i64 1, .slice none 0 0]) ∧ (∃ L', zR w' B N x g gb dk 2 L' (fun _ => []) (fun _ => [])) ∧ Ch TG (MS x) B w w' := by
  have hu64 := Tryz.underlying64
  have hu61 := Tryz.underlying61
  have B1 := hQ (show Below w.heap.size w ((w.alloc (.cells #[.int .i64 1, .int .i64 0, .int .i64 0, .slice none 0 0, .int .i64 0, .int .i64 0, .slice none 0 0] 64)).alloc (.cells #[.bool false, .int .i64 0, .slice none 0 0] 61)) from ((Below.refl _ _).alloc (Nat.le_refl _) _).alloc (by simp) _)
  have Y1 := hQ (zg (zi w (.cells #[.int .i64 1, .int .i64 0, .int .i64 0, .slice none 0 0, .int .i64 0, .int .i64 0, .slice none 0 0] 64)) (.cells #[.bool false, .int .i64 0, .slice none 0 0] 61))
  have X1 := hQ (yS w (.cells #[.int .i64 1, .int .i64 0, .int .i64 0, .slice none 0 0, .int .i64 0, .int .i64 0, .slice none 0 0] 64) (.cells #[.bool false, .int .i64 0, .slice none 0 0] 61))
  have L1 := hQ (xx.mk' h B1.out X1.out X1.out (by omega) (by omega) (by decide) (by decide))
  have HI := QZ _ B N x g gb dk L L1.out.gt hgb hdk
  clear h
  obtain ⟨y0, y1, y2, y3, y4, y5, y6⟩ := Wq Y1.out
  go_enter Tryz.func15, Tryz.ntmps15
  go_wp2_with (fail)
  refine HI.mono ?_
  rintro e w3 ⟨rfl, ⟨L', hg3⟩, hc3⟩
  have X3 := hQ (hc3.cell X1.out (by decide))
  have L3 := hQ (show xx B N x g gb dk 2 L' (fun _ => []) (fun _ => []) w w3 (w.heap.size + 1) (w.heap.size + 1) from ⟨hg3, L1.out.ch.trans hc3, L1.out.le, ⟨_, _, _, X3.out, by decide⟩, ⟨_, _, _, X3.out, by decide⟩, by omega, by omega⟩)
  clear hg3 hc3
  obtain ⟨x0, x1, x2⟩ := kV X3.out
  have fx : ∀ i, w3.frozen? ⟨w.heap.size + 1, i, none⟩ = false := fun i => zh X3.out i
  go_wp2
  refine bodyPost_ret (v := .agg #[.bool true, .int .i64 1, .slice none 0 0]) ?_ rfl ⟨rfl, ?_⟩
  · simp [results, Tryz.results15, go_sem, hu61, x0, x1, x2]
  · have hfin : ∀ W : World, xx B N x g gb dk 2 L' (fun _ => []) (fun _ => []) w W (w.heap.size + 1) (w.heap.size + 1) → (∃ L', zR W B N x g gb dk 2 L' (fun _ => []) (fun _ => [])) ∧ Ch TG (MS x) B w W := fun W hW => ⟨⟨_, hW.gt⟩, hW.ch⟩
    refine hfin _ ?_
    repeat (with_reducible first | exact L3.out | (refine xx.set ?_ (Or.inl rfl)))
theorem Wn (w : World) (B N : Nat) (x : Ix) (g : Sg) (gb dk : Nat) (L : Nat → Nat → Nat) (h : zR w B N x g gb dk 2 L (fun _ => []) (fun _ => [])) (hgb : B ≤ gb) (hdk : B ≤ dk) :
    Calls Tryz.prog 15 #[.pointer (some ⟨gb, 0, none⟩), .agg #[.int .i64 1, .int .i64 0, .int .i64 0, .slice none 0 0, .int .i64 0, .int .i64 0, .slice none 0 0]] w fun e w' => e = .returned (.agg #[.bool true, .int .i64 2, .slice none 0 0]) ∧ (∃ L', zR w' B N x g gb dk 3 L' (fun _ => []) (fun _ => [])) ∧ Ch TG (MS x) B w w' := by
  have hu64 := Tryz.underlying64
  have hu61 := Tryz.underlying61
  have B1 := hQ (show Below w.heap.size w ((w.alloc (.cells #[.int .i64 1, .int .i64 0, .int .i64 0, .slice none 0 0, .int .i64 0, .int .i64 0, .slice none 0 0] 64)).alloc (.cells #[.bool false, .int .i64 0, .slice none 0 0] 61)) from ((Below.refl _ _).alloc (Nat.le_refl _) _).alloc (by simp) _)
  have Y1 := hQ (zg (zi w (.cells #[.int .i64 1, .int .i64 0, .int .i64 0, .slice none 0 0, .int .i64 0, .int .i64 0, .slice none 0 0] 64)) (.cells #[.bool false, .int .i64 0, .slice none 0 0] 61))
  have X1 := hQ (yS w (.cells #[.int .i64 1, .int .i64 0, .int .i64 0, .slice none 0 0, .int .i64 0, .int .i64 0, .slice none 0 0] 64) (.cells #[.bool false, .int .i64 0, .slice none 0 0] 61))
  have L1 := hQ (xx.mk' h B1.out X1.out X1.out (by omega) (by omega) (by decide) (by decide))
  have HI := Jk _ B N x g gb dk L L1.out.gt hgb hdk
  clear h
  obtain ⟨y0, y1, y2, y3, y4, y5, y6⟩ := Wq Y1.out
  go_enter Tryz.func15, Tryz.ntmps15
  go_wp2_with (fail)
  refine HI.mono ?_
  rintro e w3 ⟨rfl, ⟨L', hg3⟩, hc3⟩
  have X3 := hQ (hc3.cell X1.out (by decide))
  have L3 := hQ (show xx B N x g gb dk 3 L' (fun _ => []) (fun _ => []) w w3 (w.heap.size + 1) (w.heap.size + 1) from ⟨hg3, L1.out.ch.trans hc3, L1.out.le, ⟨_, _, _, X3.out, by decide⟩, ⟨_, _, _, X3.out, by decide⟩, by omega, by omega⟩)
  clear hg3 hc3
  obtain ⟨x0, x1, x2⟩ := kV X3.out
  have fx : ∀ i, w3.frozen? ⟨w.heap.size + 1, i, none⟩ = false := fun i => zh X3.out i
  go_wp2
  refine bodyPost_ret (v := .agg #[.bool true, .int .i64 2, .slice none 0 0]) ?_ rfl ⟨rfl, ?_⟩
  · simp [results, Tryz.results15, go_sem, hu61, x0, x1, x2]
  · have hfin : ∀ W : World, xx B N x g gb dk 3 L' (fun _ => []) (fun _ => []) w W (w.heap.size + 1) (w.heap.size + 1) → (∃ L', zR W B N x g gb dk 3 L' (fun _ => []) (fun _ => [])) ∧ Ch TG (MS x) B w W := fun W hW => ⟨⟨_, hW.gt⟩, hW.ch⟩
    refine hfin _ ?_
    repeat (with_reducible first | exact L3.out | (refine xx.set ?_ (Or.inl rfl)))
end Go.Proofs.YtlalbohhopmpdaaGreat.Top
namespace Go.Proofs.YtlalbohhopmpdaaGreat.PTop
open Go.RowKit Go.YW.PrintWords Go.YW.PrintLast Go.YW.PrintMore
attribute [local go_sem] yN yO xu xw yP yR xm xq zk zo   -- for this text's walks alone
def kW (id : Int) : List S84 → Nat → Int
 | [], _ => -1
 | x :: l, i => if x.f0 = id then (i : Int) else kW id l (i + 1)
def kN.f (l0 : List S84) (a1 : Int) : Option Int := some (kW a1 l0 0)
theorem JC (x : S84) (g : Nat) (id : Int) (w : World) (hg : w.cell? ⟨g, 0, none⟩ = some (.int .i64 id)) (hl : g < w.heap.size) :
  Calls Tryz.prog 129 #[.agg #[.int .i64 x.f0, .string x.f1], .pointer (some ⟨g, 0, none⟩)] w fun e w' => e = .returned (.bool (x.f0 == id)) ∧ Below w.heap.size w w' := by
 have hu84 := Tryz.underlying84
 have hg2 : (w.alloc (.cells #[.int .i64 x.f0, .string x.f1] 84)).cell? ⟨g, 0, none⟩ = some (.int .i64 id) := by rw [World.cell?_alloc_past _ _ _ hl]; exact hg
 go_enter Tryz.func129, Tryz.ntmps129
 go_wp2_with (fail)
 go_ret
 exact ⟨rfl, (Below.refl _ _).alloc (Nat.le_refl _) _⟩
theorem JG (A0 : Option Addr) (c0 : Nat) (l0 : List S84) (g : Nat) (id : Int) (w : World) (hr0 : Kd.C k84 w A0 l0.length l0) (hc0 : l0.length ≤ c0) (hg : w.cell? ⟨g, 0, none⟩ = some (.int .i64 id)) (hl : g < w.heap.size) :
  Calls Tryz.prog 128 #[.slice A0 l0.length c0, .func (.func 129) #[] #[.pointer (some ⟨g, 0, none⟩)]] w fun e w' => e = .returned (.int .i64 (kW id l0 0)) ∧ Below w.heap.size w w' := by
 have hu84 := Tryz.underlying84
 have HR := ze.mk hr0
 have HG := ze.mk hg
 clear hr0 hg
 have hm : l0.length ≤ 9223372036854775807 := by
  have := HR.out.2.1
  omega
 go_enter Tryz.func128, Tryz.ntmps128
 go_wp2
 go_loopg [8] l0.length (fun g_ v8 wx => ∃ j : Int, 0 ≤ j ∧ j + (g_ : Int) = (l0.length : Int) ∧ v8 = .int .i64 j ∧ ze (kW id (l0.drop j.toNat) j.toNat = kW id l0 0) ∧ Below w.heap.size w wx)
 case atStart => exact ⟨0, by omega, by omega, rfl, ⟨rfl⟩, Below.refl _ _⟩
 case round =>
  obtain ⟨j, hj0, hj, rfl, HP, hb⟩ := hrel
  cases gk with
  | zero =>
   have hd : decide (j < (l0.length : Int)) = false := decide_eq_false (by omega)
   have hP := HP.out
   rw [List.drop_eq_nil_of_le (by omega)] at hP
   go_wp2
   go_ret
   exact ⟨by rw [← hP]; rfl, hb⟩
  | succ g1 =>
   have hil : j.toNat < l0.length := by omega
   have hd : decide (j < (l0.length : Int)) = true := decide_eq_true (by omega)
   have hdrop : l0.drop j.toNat = xW l0 j :: l0.drop (j.toNat + 1) := by
    rw [List.drop_eq_getElem_cons hil]
    unfold xW
    rw [List.getD_eq_getElem?_getD, List.getElem?_eq_getElem hil, Option.getD_some]
   have HG2 := (hb.cell (World.block_lt_of_cell? _ _ HG.out)).trans HG.out
   obtain ⟨ad, e, hx0, hx1⟩ := Qc (Kd.zx HR.out hb) j (by omega) (by omega)
   cases e
   have p0 : (0 ≤ j) = True := eq_true (by omega)
   have q0 : (j < (l0.length : Int)) = True := eq_true (by omega)
   have hP := HP.out
   rw [hdrop] at hP
   generalize xW l0 j = x at hx0 hx1 hP
   have HP2 := ze.mk hP
   have HB := ze.mk hb
   have HD := ze.mk hdrop
   have hgl : g < wr.heap.size := Nat.lt_of_lt_of_le hl hb.size
   clear hP HP hb hdrop
   by_cases hx : x.f0 = id
   ·
    have hxb : (x.f0 == id) = true := beq_iff_eq.mpr hx
    have HX := ze.mk hx
    clear hx
    go_wp2_with (go_at_call 129; refine (JC x g id _ HG2 hgl).mono ?_; rintro e w2 ⟨rfl, hb2⟩; rw [hxb])
    go_ret
    exact ⟨by rw [← HP2.out, kW, if_pos HX.out, Int.toNat_of_nonneg hj0]; rfl, HB.out.trans (hb2.mono HB.out.size)⟩
   ·
    have hxb : (x.f0 == id) = false := beq_eq_false_iff_ne.mpr hx
    go_wp2_with (go_at_call 129; refine (JC x g id _ HG2 hgl).mono ?_; rintro e w2 ⟨rfl, hb2⟩; rw [hxb])
    go_roundg g1
    case measure => omega
    case rel => exact ⟨j + 1, by omega, by omega, by first | rfl | (rw [show wrap64 (j + 1) = j + 1 from by unfold wrap64; omega]), ⟨by rw [← HP2.out, kW, if_neg hx, show (j + 1).toNat = j.toNat + 1 by omega]⟩, HB.out.trans (hb2.mono HB.out.size)⟩
theorem kN.calls (A0 : Option Addr) (c0 : Nat) (l0 : List S84) (a1 : Int) (r : Int) (w : World) (hr0 : Kd.C k84 w A0 l0.length l0) (hc0 : l0.length ≤ c0) (h : kN.f l0 a1 = some r) :
  Calls Tryz.prog 97 #[.slice A0 l0.length c0, .int .i64 a1] w fun e w' => e = .returned (.int .i64 r) ∧ Below w.heap.size w w' := by
 obtain rfl := Option.some.inj h
 have HR := ze.mk hr0
 have hmf : ∀ (fn : Fn) (first cap : Array Value) (w : World), (Instr.makeFunc fn first cap).run Tryz.prog w = .ok (.func fn first cap) w := fun _ _ _ _ => rfl
 go_enter Tryz.func97, Tryz.ntmps97
 go_wp2_with (go_at_call 128; refine (JG A0 c0 l0 w.heap.size a1 _ (Kd.yC HR.out _) hc0 (by rw [World.cell?_alloc_at _ _ _ _ rfl]; rfl) (by simp)).mono ?_; rintro e w2 ⟨rfl, hb2⟩)
 go_ret
 exact ⟨rfl, ((Below.refl _ _).alloc (Nat.le_refl _) _).trans (hb2.mono (by simp))⟩
end Go.Proofs.YtlalbohhopmpdaaGreat.PTop
namespace Go.Proofs.YtlalbohhopmpdaaGreat.Top
open Go.RowKit Go.Proofs.YtlalbohhopmpdaaGreat.PTop Go.YW.PrintWords Go.YW.PrintLast Go.YW.PrintMore Go.Proofs.YtlalbohhopmpdaaGreat.Num
attribute [local go_sem] zk zo
theorem zdM {w : World} {g t : Nat} {v0 v1 : Value} (h : w.heap[g]? = some (.cells #[v0, v1] t (0, 0))) : w.cell? ⟨g, 0, none⟩ = some v0 ∧ w.cell? ⟨g, 1, none⟩ = some v1 := ⟨za h 0, za h 1⟩
theorem Qf (w : World) (A : Option Addr) (c : Nat) (l : List S84) (hC : Kd.C k84 w A l.length l) (hc : l.length ≤ c) (hl : l.length ≤ 1000)
    (hI : ∀ j : Int, 0 ≤ j → j < l.length → 0 ≤ (xW l j).f0 ∧ (xW l j).f0 ≤ 255 ∧ (xW l j).f1.size ≤ 244 ∧ (0 < j → (xW l (j - 1)).f0 < (xW l j).f0)) (hP : ∀ j : Int, 0 ≤ j → j < 3 → ∃ r, kN.f l j = some r ∧ 0 ≤ r) :
    Calls Tryz.prog 51 #[.slice A l.length c] w fun e w' => e = .returned (.int .i64 0) ∧ Below w.heap.size w w' := by
  have hu84 := Tryz.underlying84
  have hu28 := Tryz.underlying28
  have HC := hQ hC
  have HCC := hQ hc
  have HL := hQ hl
  have HI := hQ hI
  have HP := hQ hP
  clear hC hc hl hI hP
  go_enter Tryz.func51, Tryz.ntmps51
  go_wp2_with (fail)
  go_loopg [10] l.length (fun g_ v10 wx => ∃ j : Int, 0 ≤ j ∧ (g_ : Int) = l.length - j ∧ v10 = .int .i64 j ∧ ze (Below w.heap.size w wx))
  case atStart => exact ⟨0, by omega, by omega, rfl, ⟨Below.refl _ _⟩⟩
  case round =>
    obtain ⟨j, hj0, hg, rfl, HB⟩ := hrel
    by_cases he : j < (l.length : Int)
    · have hd : decide (j < (l.length : Int)) = true := dT he
      have HE := hQ (show 0 ≤ j ∧ j < (l.length : Int) ∧ (gk : Int) = l.length - j from ⟨hj0, he, hg⟩)
      obtain ⟨i0, i1, i2, i3⟩ := HI.out j hj0 he
      obtain ⟨ad, e, hx0, hx1⟩ := Qc (Kd.zx HC.out HB.out) j hj0 he
      cases e
      have p0 : (0 ≤ j) = True := eq_true hj0
      have q0 : (j < (l.length : Int)) = True := eq_true he
      have hw : wrap64 (j - 1) = j - 1 := zu (by have := HL.out; omega) (by have := HL.out; omega)
      have hw1 : wrap64 (j + 1) = j + 1 := zu (by have := HL.out; omega) (by have := HL.out; omega)
      have hb1 : Below wr.heap.size wr (wr.alloc (.cells #[.int .i64 (xW l j).f0, .string (xW l j).f1] 84)) := (Below.refl _ _).alloc (Nat.le_refl _) _
      have B1 := hQ (zf HB.out HB.out.size hb1)
      obtain ⟨s0, s1⟩ := zdM (zi wr (.cells #[.int .i64 (xW l j).f0, .string (xW l j).f1] 84 (0, 0)))
      have d1 : decide ((xW l j).f0 < 0) = false := decide_eq_false (by omega)
      have d2 : decide ((xW l j).f0 > 255) = false := decide_eq_false (by omega)
      by_cases hz : 0 < j
      · have hd2 : decide (j > 0) = true := dT hz
        have pz : (1 ≤ j) = True := eq_true (by omega)
        have qz : (j - 1 < (l.length : Int)) = True := eq_true (by omega)
        have d3 : decide ((xW l j).f0 ≤ (xW l (j - 1)).f0) = false := decide_eq_false (by have := i3 hz; omega)
        obtain ⟨ad2, e, hy0, hy1⟩ := Qc (Kd.zx HC.out B1.out) (j - 1) (by omega) (by omega)
        cases e
        rw [show (j - 1).toNat = j.toNat - 1 by omega] at hy0 hy1
        clear i0 i1 i2 i3 he hz hj0 hg hb1
        go_wp2_with (fail)
        go_region
        go_wp2
        go_roundg (l.length - (j + 1)).toNat
        case measure => have := HE.out; omega
        case rel => have := HE.out; exact ⟨j + 1, by omega, by omega, by first | rfl | rw [hw1], ⟨B1.out.trans (by first | exact zl (Below.refl _ _) | exact zq (Below.refl _ _) _)⟩⟩
      · have hd2 : decide (j > 0) = false := dF hz
        clear i0 i1 i2 i3 he hz hj0 hg hb1
        go_wp2_with (fail)
        go_region
        go_wp2
        go_roundg (l.length - (j + 1)).toNat
        case measure => have := HE.out; omega
        case rel => have := HE.out; exact ⟨j + 1, by omega, by omega, by first | rfl | rw [hw1], ⟨B1.out.trans (by first | exact zl (Below.refl _ _) | exact zq (Below.refl _ _) _)⟩⟩
    · have hd : decide (j < (l.length : Int)) = false := dF he
      have HB0 := hQ HB.out
      clear he hj0 hg
      go_wp2_with (fail)
      go_loopg [41] l.length (fun g_ v10 wx => ∃ j : Int, 0 ≤ j ∧ (g_ : Int) = l.length - j ∧ v10 = .int .i64 j ∧ ze (Below w.heap.size w wx))
      case atStart => exact ⟨0, by omega, by omega, rfl, ⟨HB0.out⟩⟩
      case round =>
        obtain ⟨j, hj0, hg, rfl, HB⟩ := hrel
        by_cases he : j < (l.length : Int)
        · have hd : decide (j < (l.length : Int)) = true := dT he
          have HE := hQ (show 0 ≤ j ∧ j < (l.length : Int) ∧ (gk : Int) = l.length - j from ⟨hj0, he, hg⟩)
          obtain ⟨i0, i1, i2, i3⟩ := HI.out j hj0 he
          obtain ⟨ad, e, hx0, hx1⟩ := Qc (Kd.zx HC.out HB.out) j hj0 he
          cases e
          have p0 : (0 ≤ j) = True := eq_true hj0
          have q0 : (j < (l.length : Int)) = True := eq_true he
          have hw1 : wrap64 (j + 1) = j + 1 := zu (by have := HL.out; omega) (by have := HL.out; omega)
          have B1 := hQ (zf HB.out HB.out.size (show Below wr.heap.size wr (wr.alloc (.cells #[.int .i64 (xW l j).f0, .string (xW l j).f1] 84)) from (Below.refl _ _).alloc (Nat.le_refl _) _))
          obtain ⟨s0, s1⟩ := zdM (zi wr (.cells #[.int .i64 (xW l j).f0, .string (xW l j).f1] 84 (0, 0)))
          have d1 : decide (((xW l j).f1.size : Int) > 244) = false := decide_eq_false (by omega)
          clear i0 i1 i2 i3 he hj0 hg
          go_wp2
          go_roundg (l.length - (j + 1)).toNat
          case measure => have := HE.out; omega
          case rel => have := HE.out; exact ⟨j + 1, by omega, by omega, by first | rfl | rw [hw1], ⟨B1.out⟩⟩
        · have hd : decide (j < (l.length : Int)) = false := dF he
          have HB1 := hQ HB.out
          clear he hj0 hg
          go_wp2_with (fail)
          go_loopg [50] 3 (fun g_ v10 wx => ∃ j : Int, 0 ≤ j ∧ (g_ : Int) = 3 - j ∧ v10 = .int .i64 j ∧ ze (Below w.heap.size w wx))
          case atStart => exact ⟨0, by omega, by omega, rfl, ⟨HB1.out⟩⟩
          case round =>
            obtain ⟨j, hj0, hg, rfl, HB⟩ := hrel
            by_cases he : j < 3
            · have hd : decide (j < 3) = true := dT he
              have HE := hQ (show 0 ≤ j ∧ j < 3 ∧ (gk : Int) = 3 - j from ⟨hj0, he, hg⟩)
              obtain ⟨r, hr, h0⟩ := HP.out j hj0 he
              have hw1 : wrap64 (j + 1) = j + 1 := zu (by omega) (by omega)
              have d1 : decide (r < 0) = false := decide_eq_false (by omega)
              have HR := hQ hr
              clear he hj0 hg hr h0
              go_wp2_with (fail)
              refine (kN.calls A c l j r _ (Kd.zx HC.out HB.out) HCC.out HR.out).mono ?_
              rintro e w2 ⟨rfl, hb⟩
              have B2 := hQ (zf HB.out HB.out.size hb)
              clear hb
              go_wp2
              go_roundg (3 - (j + 1)).toNat
              case measure => have := HE.out; omega
              case rel => have := HE.out; exact ⟨j + 1, by omega, by omega, by first | rfl | rw [hw1], ⟨B2.out⟩⟩
            · have hd : decide (j < 3) = false := dF he
              clear he hj0 hg
              go_wp2
              exact bodyPost_ret (v := .int .i64 0) (by simp [results, Tryz.results51, go_sem]) rfl ⟨rfl, HB.out⟩
theorem Kk (w : World) (A : Option Addr) (c : Nat) (hC : Kd.C k84 w A 3 qB) (hc : 3 ≤ c) : Calls Tryz.prog 51 #[.slice A 3 c] w fun e w' => e = .returned (.int .i64 0) ∧ Below w.heap.size w w' := by
  have h3 : ∀ j : Int, 0 ≤ j → j < 3 → j = 0 ∨ j = 1 ∨ j = 2 := fun j h0 h1 => by omega
  refine Qf w A c qB hC hc (by decide) (fun j h0 h1 => ?_) (fun j h0 h1 => ?_)
  · rcases h3 j h0 h1 with rfl | rfl | rfl <;> decide +kernel
  · rcases h3 j h0 h1 with rfl | rfl | rfl
    · exact ⟨0, by decide +kernel, by decide⟩
    · exact ⟨1, by decide +kernel, by decide⟩
    · exact ⟨2, by decide +kernel, by decide⟩
end Go.Proofs.YtlalbohhopmpdaaGreat.Top
namespace Go.Proofs.YtlalbohhopmpdaaGreat.PTop
open Go.RowKit Go.YW.PrintWords Go.YW.PrintLast Go.YW.PrintMore
attribute [local go_sem] yN yO xu xw yP yR xm xq zk zo   -- for this text's walks alone
def yU.f (l0 : List Int) (a1 : Int) : Option (Int) := if a1 < 0 then (some 0) else (if a1 ≥ (l0.length : Int) then (some 0) else (if 0 ≤ a1 then (if a1 < (l0.length : Int) then (some (rd l0 a1)) else (none)) else (none)))
theorem yU.calls (A0 : Option Addr) (c0 : Nat) (l0 : List Int) (a1 : Int) (r : Int) (w : World) (hr0 : Kd.C (Kd.int .i64) w A0 l0.length l0) (hc0 : l0.length ≤ c0) (h : yU.f l0 a1 = some r) :
  Calls Tryz.prog 41 #[.slice A0 l0.length c0, .int .i64 a1] w fun e w' => e = .returned (.int .i64 r) ∧ zw w w' := by
 have HR0 := ze.mk hr0
 have HC0 := ze.mk hc0
 clear hr0 hc0
 have H : (if a1 < 0 then (some 0) else (if a1 ≥ (l0.length : Int) then (some 0) else (if 0 ≤ a1 then (if a1 < (l0.length : Int) then (some (rd l0 a1)) else (none)) else (none)))) = some r := h
 clear h
 by_cases c3 : a1 < 0
 ·
  rw [if_pos c3] at H
  have c3b0 : decide (a1 < 0) = true := dT c3
  clear c3
  obtain rfl := Option.some.inj H
  go_enter Tryz.func41, Tryz.ntmps41
  go_wp2
  go_ret
  exact ⟨by first | rfl | (simp; done) | (simp [*]; done), by repeat (first | exact zw.refl _ | apply zw.step)⟩
 ·
  rw [if_neg c3] at H
  have c3b0 : decide (a1 < 0) = false := dF c3
  clear c3
  by_cases c4 : a1 ≥ (l0.length : Int)
  ·
   rw [if_pos c4] at H
   have c4b0 : decide ((l0.length : Int) ≤ a1) = true := dT c4
   clear c4
   obtain rfl := Option.some.inj H
   go_enter Tryz.func41, Tryz.ntmps41
   go_wp2
   go_ret
   exact ⟨by first | rfl | (simp; done) | (simp [*]; done), by repeat (first | exact zw.refl _ | apply zw.step)⟩
  ·
   rw [if_neg c4] at H
   have c4b0 : decide ((l0.length : Int) ≤ a1) = false := dF c4
   clear c4
   by_cases c5 : 0 ≤ a1
   ·
    rw [if_pos c5] at H
    have c5b0 : decide (0 ≤ a1) = true := dT c5
    clear c5
    by_cases c6 : a1 < (l0.length : Int)
    ·
     rw [if_pos c6] at H
     have c6b0 : decide (a1 < (l0.length : Int)) = true := dT c6
     clear c6
     obtain rfl := Option.some.inj H
     have p556 : 0 ≤ (a1 : Int) := of_decide_eq_true (by first | (with_reducible assumption) | assumption)
     have q556 : a1 < (l0.length : Int) := of_decide_eq_true (by first | (with_reducible assumption) | assumption)
     obtain ⟨ad556, e556, hx556_0⟩ := Kd.qH HR0.out a1 p556 q556
     cases e556
     replace p556 := eq_true p556
     replace q556 := eq_true q556
     go_enter Tryz.func41, Tryz.ntmps41
     go_wp2
     go_ret
     exact ⟨by first | rfl | (simp; done) | (simp [*]; done), by repeat (first | exact zw.refl _ | apply zw.step)⟩
    ·
     rw [if_neg c6] at H
     exact absurd H (by simp)
   ·
    rw [if_neg c5] at H
    exact absurd H (by simp)
end Go.Proofs.YtlalbohhopmpdaaGreat.PTop
namespace Go.Proofs.YtlalbohhopmpdaaGreat.Top
open Go.RowKit Go.Proofs.YtlalbohhopmpdaaGreat.PTop Go.YW.PrintWords Go.YW.PrintLast Go.YW.PrintMore Go.Proofs.YtlalbohhopmpdaaGreat.Num
attribute [local go_sem] zk zo
def z30 : Array Value := #[.slice none 0 0, .slice none 0 0, .int .i64 0, .int .i64 0, .int .i64 0, .int .i64 0, .int .i64 0, .int .i64 0, .int .i64 0, .int .i64 0, .int .i64 0, .int .u64 0, .slice none 0 0]
theorem Zx {w w1 : World} (hg : w.grownBy w1 none) : Below w.heap.size w w1 := ⟨hg.os, hg.tape, hg.output, hg.size, fun k hk => hg.block k hk (by simp)⟩
structure CfR (w0 : World) (g a b d ca cb : Nat) (cs : Array Value) (w : World) : Prop where
  s : CfS w0 g cs w
  t : CfS w0 w0.heap.size z30 w
  m : Kd.R k78 78 w w0.heap.size (fun _ => True) (.slice (some ⟨a, 0, none⟩) 5 ca) yA
  r : Kd.R k81 81 w w0.heap.size (fun _ => True) (.slice (some ⟨b, 0, none⟩) 3 cb) zY
  o : Kd.R k84 84 w w0.heap.size (fun _ => True) (.slice (some ⟨d, 0, none⟩) 3 3) qB
  ne : g ≠ w0.heap.size
section
variable {w0 w w1 : World} {g a b d ca cb : Nat} {cs : Array Value}
theorem CfR.below (h : CfR w0 g a b d ca cb cs w) (hb : Below w.heap.size w w1) : CfR w0 g a b d ca cb cs w1 := ⟨h.s.below hb, h.t.below hb, Kd.zz h.m hb, Kd.zz h.r hb, Kd.zz h.o hb, h.ne⟩
theorem CfS.zc (h : CfS w0 g z30 w) : w.cell? ⟨g, 0, none⟩ = some (.slice none 0 0) ∧ w.cell? ⟨g, 1, none⟩ = some (.slice none 0 0) ∧ w.cell? ⟨g, 2, none⟩ = some (.int .i64 0) ∧ w.cell? ⟨g, 3, none⟩ = some (.int .i64 0) ∧ w.cell? ⟨g, 4, none⟩ = some (.int .i64 0) ∧ w.cell? ⟨g, 5, none⟩ = some (.int .i64 0) ∧ w.cell? ⟨g, 6, none⟩ = some (.int .i64 0) ∧ w.cell? ⟨g, 7, none⟩ = some (.int .i64 0) ∧ w.cell? ⟨g, 8, none⟩ = some (.int .i64 0) ∧ w.cell? ⟨g, 9, none⟩ = some (.int .i64 0) ∧ w.cell? ⟨g, 10, none⟩ = some (.int .i64 0) ∧ w.cell? ⟨g, 11, none⟩ = some (.int .u64 0) ∧ w.cell? ⟨g, 12, none⟩ = some (.slice none 0 0) := CfS.c h
theorem CfS.far (h : CfS w0 g cs w) {g2 : Nat} (hg : g ≠ g2) (h2 : w0.heap.size ≤ g2) (i : Nat) (v : Value) : CfS w0 g cs (w.setCell ⟨g2, i, none⟩ v) := ⟨(Below.heap_setCell w ⟨g2, i, none⟩ v g hg).trans h.X, h.B.setCell h2 v, h.ge⟩
theorem CfR.set {cs' : Array Value} (h : CfR w0 g a b d ca cb cs w) (i : Nat) (v : Value) (hcs : cs.setIfInBounds i v = cs' := by (simp only [List.setIfInBounds_toArray, List.set_cons_zero, List.set_cons_succ]; rfl)) : CfR w0 g a b d ca cb cs' (w.setCell ⟨g, i, none⟩ v) :=
  ⟨hcs ▸ h.s.set i v, h.t.far h.ne.symm h.s.ge i v, Kd.Zh h.m h.s.X (by decide) i v, Kd.Zh h.r h.s.X (by decide) i v, Kd.Zh h.o h.s.X (by decide) i v, h.ne⟩
end
theorem zc1 (w : World) : Calls Tryz.prog 16 #[.slice none 0 0] w fun e w' => ∃ a b d ca cb, e = .returned (.agg #[.slice (some ⟨a, 0, none⟩) 5 ca, .slice (some ⟨b, 0, none⟩) 3 cb, .int .i64 100, .int .i64 1, .int .i64 1, .int .i64 0, .int .i64 0, .int .i64 1, .int .i64 1, .int .i64 1024, .int .i64 1024, .int .u64 18446744073709551615, .slice (some ⟨d, 0, none⟩) 3 3]) ∧ Kd.R k78 78 w' w.heap.size (fun _ => True) (.slice (some ⟨a, 0, none⟩) 5 ca) yA ∧ Kd.R k81 81 w' w.heap.size (fun _ => True) (.slice (some ⟨b, 0, none⟩) 3 cb) zY ∧ Kd.R k84 84 w' w.heap.size (fun _ => True) (.slice (some ⟨d, 0, none⟩) 3 3) qB ∧ Below w.heap.size w w' := by
  have hu30 := Tryz.underlying30
  have hu78 := Tryz.underlying78
  have hu81 := Tryz.underlying81
  have hb0 : Below w.heap.size w (w.alloc (.cells z30 30)) := (Below.refl _ _).alloc (Nat.le_refl _) _
  have T0 := hQ (show CfS w w.heap.size z30 (w.alloc (.cells z30 30)) from ⟨zi w _, hb0, Nat.le_refl _⟩)
  clear hb0
  simp only [z30] at T0
  go_enter Tryz.func16, Tryz.ntmps16
  go_wp2_with (fail)
  refine (zbM _).mono ?_
  rintro e w1 ⟨A, n, c, G, rfl, hO, hb⟩
  have T1 := hQ (show CfS w w.heap.size z30 w1 from T0.out.below hb)
  have O1 := hQ (Kd.zU hO T0.out.B.size)
  have HNE := hQ (show w.heap.size < w1.heap.size from zF T1.out.X)
  clear hb hO
  obtain ⟨g, hg⟩ : ∃ g, w1.heap.size = g := ⟨_, rfl⟩
  have hb2 : Below w1.heap.size w1 (w1.alloc (.cells #[.slice A n c, .slice none 0 0, .int .i64 60000, .int .i64 100, .int .i64 32, .int .i64 8, .int .i64 10000, .int .i64 100, .int .i64 500, .int .i64 1024, .int .i64 1024, .int .u64 0, .slice (some ⟨G, 0, none⟩) 3 3] 30)) := (Below.refl _ _).alloc (Nat.le_refl _) _
  have S2 := hQ (show CfS w g #[.slice A n c, .slice none 0 0, .int .i64 60000, .int .i64 100, .int .i64 32, .int .i64 8, .int .i64 10000, .int .i64 100, .int .i64 500, .int .i64 1024, .int .i64 1024, .int .u64 0, .slice (some ⟨G, 0, none⟩) 3 3] (w1.alloc (.cells #[.slice A n c, .slice none 0 0, .int .i64 60000, .int .i64 100, .int .i64 32, .int .i64 8, .int .i64 10000, .int .i64 100, .int .i64 500, .int .i64 1024, .int .i64 1024, .int .u64 0, .slice (some ⟨G, 0, none⟩) 3 3] 30)) from ⟨by rw [← hg]; exact zi w1 _, zf T1.out.B T1.out.B.size hb2, by rw [← hg]; exact T1.out.B.size⟩)
  have T2 := hQ (T1.out.below hb2)
  have O2 := hQ (Kd.zz O1.out hb2)
  have HGW := hQ (show g < (w1.alloc (.cells #[.slice A n c, .slice none 0 0, .int .i64 60000, .int .i64 100, .int .i64 32, .int .i64 8, .int .i64 10000, .int .i64 100, .int .i64 500, .int .i64 1024, .int .i64 1024, .int .u64 0, .slice (some ⟨G, 0, none⟩) 3 3] 30)).heap.size from zF S2.out.X)
  have HNE2 := hQ (show g ≠ w.heap.size by have := HNE.out; omega)
  generalize hW2 : w1.alloc (.cells #[.slice A n c, .slice none 0 0, .int .i64 60000, .int .i64 100, .int .i64 32, .int .i64 8, .int .i64 10000, .int .i64 100, .int .i64 500, .int .i64 1024, .int .i64 1024, .int .u64 0, .slice (some ⟨G, 0, none⟩) 3 3] 30) = W2 at *
  go_wp2_with (first | ((with_reducible refine zN (N := 10) rfl ?_); go_must (refine Kd.vw k78 (w0 := w) w.heap.size 78 rfl (N := 10) rfl (xs := yA) (inner := #[.int .i64 0, .int .i64 0, .int .i64 40, .int .i64 1, .int .i64 0, .int .i64 40, .int .i64 2, .int .i64 0, .int .i64 20, .int .i64 2, .int .i64 24, .int .i64 40, .int .i64 3, .int .i64 0, .int .i64 40].toList) (ok := fun _ => True) (okp := fun _ => False) (by kernel_rfl) (yJ.c3 (jm _ _ _ ⟨0, 0, 40⟩) (yJ.c3 (jm _ _ _ ⟨1, 0, 40⟩) (yJ.c3 (jm _ _ _ ⟨2, 0, 20⟩) (yJ.c3 (jm _ _ _ ⟨2, 24, 40⟩) (yJ.c3 (jm _ _ _ ⟨3, 0, 40⟩) (yJ.none _ _)))))) (fun _ h => h.elim) trivial S2.out.B S2.out.B.size (by decide) ?_; intro v3 w3 ho hb hg hat; obtain ⟨a, ca, e3, _, _, _⟩ := Kd.qm ho (by decide); have e4 : v3 = .slice (some ⟨a, 0, none⟩) 5 ca := e3; clear e3; subst e4; have S3 := hQ (show CfS w g #[.slice A n c, .slice none 0 0, .int .i64 60000, .int .i64 100, .int .i64 32, .int .i64 8, .int .i64 10000, .int .i64 100, .int .i64 500, .int .i64 1024, .int .i64 1024, .int .u64 0, .slice (some ⟨G, 0, none⟩) 3 3] w3 from S2.out.below (Zx hg)); have T3 := hQ (show CfS w w.heap.size z30 w3 from T2.out.below (Zx hg)); have R3 := hQ (show Kd.R k78 78 w3 w.heap.size (fun _ => True) (.slice (some ⟨a, 0, none⟩) 5 ca) yA from ho); have O3 := hQ (Kd.zz O2.out (Zx hg)); have x0 : w3.cell? ⟨g, 0, none⟩ = some (.slice A n c) := za S3.out.X 0; have f0 : w3.frozen? ⟨g, 0, none⟩ = false := zh S3.out.X 0; clear ho hb hg hat)) | ((with_reducible refine zN (N := 15) rfl ?_); go_must (refine Kd.vw k81 (w0 := w) w.heap.size 81 rfl (N := 15) rfl (xs := zY) (inner := #[.int .i64 2, .int .i64 4, .int .i64 2, .int .i64 2, .int .i64 8, .int .i64 4, .int .i64 3, .int .i64 4, .int .i64 4].toList) (ok := fun _ => True) (okp := fun _ => False) (by kernel_rfl) (yJ.c3 (YF _ _ _ ⟨2, 4, 2⟩) (yJ.c3 (YF _ _ _ ⟨2, 8, 4⟩) (yJ.c3 (YF _ _ _ ⟨3, 4, 4⟩) (yJ.none _ _)))) (fun _ h => h.elim) trivial (S3.out.set 0 (.slice (some ⟨a, 0, none⟩) 5 ca)).B (S3.out.set 0 (.slice (some ⟨a, 0, none⟩) 5 ca)).B.size (by decide) ?_; intro v4 w4 ho hb hg hat; obtain ⟨b, cb, e3, _, _, _⟩ := Kd.qm ho (by decide); have e4 : v4 = .slice (some ⟨b, 0, none⟩) 3 cb := e3; clear e3; subst e4; have S4 := S3.out.set 0 (.slice (some ⟨a, 0, none⟩) 5 ca); have T4 := T3.out.far HNE2.out.symm S3.out.ge 0 (.slice (some ⟨a, 0, none⟩) 5 ca); have K4 := hQ (show CfR w g a b G ca cb #[.slice (some ⟨a, 0, none⟩) 5 ca, .slice none 0 0, .int .i64 60000, .int .i64 100, .int .i64 32, .int .i64 8, .int .i64 10000, .int .i64 100, .int .i64 500, .int .i64 1024, .int .i64 1024, .int .u64 0, .slice (some ⟨G, 0, none⟩) 3 3] w4 from ⟨S4.below (Zx hg), T4.below (Zx hg), Kd.zz (Kd.Zh R3.out S3.out.X (by decide) 0 (.slice (some ⟨a, 0, none⟩) 5 ca)) (Zx hg), ho, Kd.zz (Kd.Zh O3.out S3.out.X (by decide) 0 (.slice (some ⟨a, 0, none⟩) 5 ca)) (Zx hg), HNE2.out⟩); clear S4 T4 ho hb hg hat; have x1 : w4.cell? ⟨g, 1, none⟩ = some (.slice none 0 0) := za K4.out.s.X 1; have f1 : w4.frozen? ⟨g, 1, none⟩ = false := zh K4.out.s.X 1; have x2 : (w4.setCell ⟨g, 1, none⟩ (.slice (some ⟨b, 0, none⟩) 3 cb)).cell? ⟨g, 2, none⟩ = some (.int .i64 60000) := za (K4.out.set 1 (.slice (some ⟨b, 0, none⟩) 3 cb)).s.X 2; have f2 : (w4.setCell ⟨g, 1, none⟩ (.slice (some ⟨b, 0, none⟩) 3 cb)).frozen? ⟨g, 2, none⟩ = false := zh (K4.out.set 1 (.slice (some ⟨b, 0, none⟩) 3 cb)).s.X 2; have K5 := hQ ((K4.out.set 1 (.slice (some ⟨b, 0, none⟩) 3 cb)).set 2 (.int .i64 100)))))
  refine (yU.calls none 0 [] 0 0 _ (Kd.ko _ _) (Nat.le_refl _) (by kernel_rfl)).mono ?_
  rintro e w6 ⟨rfl, hd⟩
  have K6 := hQ (K5.out.below hd.below)
  clear hd
  go_wp2_with (fail)
  refine (zK.calls 0 12 0 _ (by kernel_rfl)).mono ?_
  rintro e w7 ⟨rfl, hd⟩
  have K7 := hQ (K6.out.below hd.below)
  clear hd
  have x3 : w7.cell? ⟨g, 3, none⟩ = some (.int .i64 100) := za K7.out.s.X 3
  have f3 : w7.frozen? ⟨g, 3, none⟩ = false := zh K7.out.s.X 3
  go_wp2_with (fail)
  refine (yU.calls none 0 [] 0 0 _ (Kd.ko _ _) (Nat.le_refl _) (by kernel_rfl)).mono ?_
  rintro e w8 ⟨rfl, hd⟩
  have K8 := hQ ((K7.out.set 3 (.int .i64 1)).below hd.below)
  clear hd
  go_wp2_with (fail)
  refine (yz.calls 0 12 5 0 _ (by kernel_rfl)).mono ?_
  rintro e w9 ⟨rfl, hd⟩
  have K9 := hQ (K8.out.below hd.below)
  clear hd
  have x5 : w9.cell? ⟨g, 5, none⟩ = some (.int .i64 8) := za K9.out.s.X 5
  have f5 : w9.frozen? ⟨g, 5, none⟩ = false := zh K9.out.s.X 5
  have x6 : (w9.setCell ⟨g, 5, none⟩ (.int .i64 0)).cell? ⟨g, 6, none⟩ = some (.int .i64 10000) := za (K9.out.set 5 (.int .i64 0)).s.X 6
  have f6 : (w9.setCell ⟨g, 5, none⟩ (.int .i64 0)).frozen? ⟨g, 6, none⟩ = false := zh (K9.out.set 5 (.int .i64 0)).s.X 6
  go_wp2_with (fail)
  refine (yU.calls none 0 [] 1 0 _ (Kd.ko _ _) (Nat.le_refl _) (by kernel_rfl)).mono ?_
  rintro e w10 ⟨rfl, hd⟩
  have K10 := hQ (((K9.out.set 5 (.int .i64 0)).set 6 (.int .i64 2000)).below hd.below)
  clear hd
  go_wp2_with (fail)
  refine (zK.calls 0 6 0 _ (by kernel_rfl)).mono ?_
  rintro e w11 ⟨rfl, hd⟩
  have K11 := hQ (K10.out.below hd.below)
  clear hd
  have x7 : w11.cell? ⟨g, 7, none⟩ = some (.int .i64 100) := za K11.out.s.X 7
  have f7 : w11.frozen? ⟨g, 7, none⟩ = false := zh K11.out.s.X 7
  go_wp2_with (fail)
  refine (yU.calls none 0 [] 1 0 _ (Kd.ko _ _) (Nat.le_refl _) (by kernel_rfl)).mono ?_
  rintro e w12 ⟨rfl, hd⟩
  have K12 := hQ ((K11.out.set 7 (.int .i64 1)).below hd.below)
  clear hd
  go_wp2_with (fail)
  refine (yz.calls 0 6 20 0 _ (by kernel_rfl)).mono ?_
  rintro e w13 ⟨rfl, hd⟩
  have K13 := hQ (K12.out.below hd.below)
  clear hd
  have x8 : w13.cell? ⟨g, 8, none⟩ = some (.int .i64 500) := za K13.out.s.X 8
  have f8 : w13.frozen? ⟨g, 8, none⟩ = false := zh K13.out.s.X 8
  go_wp2_with (fail)
  refine (yU.calls none 0 [] 1 0 _ (Kd.ko _ _) (Nat.le_refl _) (by kernel_rfl)).mono ?_
  rintro e w14 ⟨rfl, hd⟩
  have K14 := hQ ((K13.out.set 8 (.int .i64 1)).below hd.below)
  clear hd
  go_wp2_with (fail)
  refine (yz.calls 0 120 3 0 _ (by kernel_rfl)).mono ?_
  rintro e w15 ⟨rfl, hd⟩
  have K15 := hQ (K14.out.below hd.below)
  clear hd
  go_wp2_with (fail)
  refine (yU.calls none 0 [] 2 0 _ (Kd.ko _ _) (Nat.le_refl _) (by kernel_rfl)).mono ?_
  rintro e w16 ⟨rfl, hd⟩
  have K16 := hQ (K15.out.below hd.below)
  clear hd
  go_wp2_with (fail)
  refine (zK.calls 0 4 0 _ (by kernel_rfl)).mono ?_
  rintro e w17 ⟨rfl, hd⟩
  have K17 := hQ (K16.out.below hd.below)
  clear hd
  go_wp2_with (fail)
  refine (yU.calls none 0 [] 2 0 _ (Kd.ko _ _) (Nat.le_refl _) (by kernel_rfl)).mono ?_
  rintro e w18 ⟨rfl, hd⟩
  have K18 := hQ (K17.out.below hd.below)
  clear hd
  go_wp2_with (fail)
  refine (yz.calls 0 4 60 0 _ (by kernel_rfl)).mono ?_
  rintro e w19 ⟨rfl, hd⟩
  have K19 := hQ (K18.out.below hd.below)
  clear hd
  have x6 : w19.cell? ⟨g, 6, none⟩ = some (.int .i64 2000) := za K19.out.s.X 6
  have f6 : w19.frozen? ⟨g, 6, none⟩ = false := zh K19.out.s.X 6
  go_wp2_with (fail)
  refine (yU.calls none 0 [] 2 0 _ (Kd.ko _ _) (Nat.le_refl _) (by kernel_rfl)).mono ?_
  rintro e w20 ⟨rfl, hd⟩
  have K20 := hQ ((K19.out.set 6 (.int .i64 0)).below hd.below)
  clear hd
  go_wp2_with (fail)
  refine (yz.calls 0 240 6 0 _ (by kernel_rfl)).mono ?_
  rintro e w21 ⟨rfl, hd⟩
  have K21 := hQ (K20.out.below hd.below)
  clear hd
  have x4 : w21.cell? ⟨g, 4, none⟩ = some (.int .i64 32) := za K21.out.s.X 4
  have f4 : w21.frozen? ⟨g, 4, none⟩ = false := zh K21.out.s.X 4
  go_wp2_with (fail)
  refine (yU.calls none 0 [] 3 0 _ (Kd.ko _ _) (Nat.le_refl _) (by kernel_rfl)).mono ?_
  rintro e w22 ⟨rfl, hd⟩
  have K22 := hQ ((K21.out.set 4 (.int .i64 1)).below hd.below)
  clear hd
  go_wp2_with (fail)
  refine (zK.calls 0 9 0 _ (by kernel_rfl)).mono ?_
  rintro e w23 ⟨rfl, hd⟩
  have K23 := hQ (K22.out.below hd.below)
  clear hd
  have x11 : w23.cell? ⟨g, 11, none⟩ = some (.int .u64 0) := za K23.out.s.X 11
  have f11 : w23.frozen? ⟨g, 11, none⟩ = false := zh K23.out.s.X 11
  go_wp2_with (fail)
  refine (yU.calls none 0 [] 3 0 _ (Kd.ko _ _) (Nat.le_refl _) (by kernel_rfl)).mono ?_
  rintro e w24 ⟨rfl, hd⟩
  have K24 := hQ ((K23.out.set 11 (.int .u64 0)).below hd.below)
  clear hd
  go_wp2_with (fail)
  refine (yz.calls 0 9 6 0 _ (by kernel_rfl)).mono ?_
  rintro e w25 ⟨rfl, hd⟩
  have K25 := hQ (K24.out.below hd.below)
  clear hd
  have x11 : w25.cell? ⟨g, 11, none⟩ = some (.int .u64 0) := za K25.out.s.X 11
  have f11 : w25.frozen? ⟨g, 11, none⟩ = false := zh K25.out.s.X 11
  have KF := hQ (K25.out.set 11 (.int .u64 18446744073709551615))
  obtain ⟨z0, z1, z2, z3, z4, z5, z6, z7, z8, z9, z10, z11, z12⟩ := KF.out.s.c
  obtain ⟨y0, y1, y2, y3, y4, y5, y6, y7, y8, y9, y10, y11, y12⟩ := KF.out.t.zc
  have fy := fun i => zh KF.out.t.X i
  go_wp2_with (fail)
  refine bodyPost_ret (v := .agg #[.slice (some ⟨a, 0, none⟩) 5 ca, .slice (some ⟨b, 0, none⟩) 3 cb, .int .i64 100, .int .i64 1, .int .i64 1, .int .i64 0, .int .i64 0, .int .i64 1, .int .i64 1, .int .i64 1024, .int .i64 1024, .int .u64 18446744073709551615, .slice (some ⟨G, 0, none⟩) 3 3]) ?_ rfl ⟨_, _, _, _, _, rfl, qN (g1 := w.heap.size) (g2 := w.heap.size) (fun i h1 h2 => ?_) KF.out.t.X KF.out.t.X (by decide) KF.out.m, qN (g1 := w.heap.size) (g2 := w.heap.size) (fun i h1 h2 => ?_) KF.out.t.X KF.out.t.X (by decide) KF.out.r, qN (g1 := w.heap.size) (g2 := w.heap.size) (fun i h1 h2 => ?_) KF.out.t.X KF.out.t.X (by decide) KF.out.o, ?_⟩
  · simp [results, Tryz.results16, go_sem, hu30, y0, y1, y2, y3, y4, y5, y6, y7, y8, y9, y10, y11, y12]
  · iterate 13 rw [Below.heap_setCell _ _ _ i h1]
  · iterate 13 rw [Below.heap_setCell _ _ _ i h1]
  · iterate 13 rw [Below.heap_setCell _ _ _ i h1]
  · refine KF.out.t.B.trans ?_
    (repeat (with_reducible first | exact Below.refl _ _ | (refine jG ?_ (by omega))))
theorem zdi (w : World) : Calls Tryz.prog 7 #[] w fun e w' => ∃ a b d ca cb, e = .returned (.agg #[.slice (some ⟨a, 0, none⟩) 5 ca, .slice (some ⟨b, 0, none⟩) 3 cb, .int .i64 100, .int .i64 1000, .int .i64 8, .int .i64 8, .int .i64 100000, .int .i64 500, .int .i64 2000, .int .i64 1024, .int .i64 1024, .int .u64 0, .slice (some ⟨d, 0, none⟩) 3 3]) ∧ Kd.R k78 78 w' w.heap.size (fun _ => True) (.slice (some ⟨a, 0, none⟩) 5 ca) yA ∧ Kd.R k81 81 w' w.heap.size (fun _ => True) (.slice (some ⟨b, 0, none⟩) 3 cb) zY ∧ Kd.R k84 84 w' w.heap.size (fun _ => True) (.slice (some ⟨d, 0, none⟩) 3 3) qB ∧ Below w.heap.size w w' := by
  have hu30 := Tryz.underlying30
  have hb0 : Below w.heap.size w (w.alloc (.cells z30 30)) := (Below.refl _ _).alloc (Nat.le_refl _) _
  have T0 := hQ (show CfS w w.heap.size z30 (w.alloc (.cells z30 30)) from ⟨zi w _, hb0, Nat.le_refl _⟩)
  clear hb0
  simp only [z30] at T0
  go_enter Tryz.func7, Tryz.ntmps7
  go_wp2_with (fail)
  refine (zc1 _).mono ?_
  rintro e w1 ⟨a, b, d, ca, cb, rfl, hm, hr, hO, hb⟩
  have hT1 : CfS w w.heap.size z30 w1 := T0.out.below hb
  have HNE := hQ (show w.heap.size < w1.heap.size from zF hT1.X)
  obtain ⟨g, hg⟩ : ∃ g, w1.heap.size = g := ⟨_, rfl⟩
  have hb2 : Below w1.heap.size w1 (w1.alloc (.cells #[.slice (some ⟨a, 0, none⟩) 5 ca, .slice (some ⟨b, 0, none⟩) 3 cb, .int .i64 100, .int .i64 1, .int .i64 1, .int .i64 0, .int .i64 0, .int .i64 1, .int .i64 1, .int .i64 1024, .int .i64 1024, .int .u64 18446744073709551615, .slice (some ⟨d, 0, none⟩) 3 3] 30)) := (Below.refl _ _).alloc (Nat.le_refl _) _
  have K2 : CfR w g a b d ca cb #[.slice (some ⟨a, 0, none⟩) 5 ca, .slice (some ⟨b, 0, none⟩) 3 cb, .int .i64 100, .int .i64 1, .int .i64 1, .int .i64 0, .int .i64 0, .int .i64 1, .int .i64 1, .int .i64 1024, .int .i64 1024, .int .u64 18446744073709551615, .slice (some ⟨d, 0, none⟩) 3 3] (w1.alloc (.cells #[.slice (some ⟨a, 0, none⟩) 5 ca, .slice (some ⟨b, 0, none⟩) 3 cb, .int .i64 100, .int .i64 1, .int .i64 1, .int .i64 0, .int .i64 0, .int .i64 1, .int .i64 1, .int .i64 1024, .int .i64 1024, .int .u64 18446744073709551615, .slice (some ⟨d, 0, none⟩) 3 3] 30)) := ⟨⟨by rw [← hg]; exact zi w1 _, zf hT1.B hT1.B.size hb2, by rw [← hg]; exact hT1.B.size⟩, hT1.below hb2, Kd.zz (Kd.zU hm T0.out.B.size) hb2, Kd.zz (Kd.zU hr T0.out.B.size) hb2, Kd.zz (Kd.zU hO T0.out.B.size) hb2, by have := HNE.out; omega⟩
  clear hm hr hO hb hT1 hb2
  generalize hW2 : w1.alloc (.cells #[.slice (some ⟨a, 0, none⟩) 5 ca, .slice (some ⟨b, 0, none⟩) 3 cb, .int .i64 100, .int .i64 1, .int .i64 1, .int .i64 0, .int .i64 0, .int .i64 1, .int .i64 1, .int .i64 1024, .int .i64 1024, .int .u64 18446744073709551615, .slice (some ⟨d, 0, none⟩) 3 3] 30) = W2 at *
  have x3 : W2.cell? ⟨g, 3, none⟩ = some (.int .i64 1) := za K2.s.X 3
  have f3 : W2.frozen? ⟨g, 3, none⟩ = false := zh K2.s.X 3
  have x5 : (W2.setCell ⟨g, 3, none⟩ (.int .i64 1000)).cell? ⟨g, 5, none⟩ = some (.int .i64 0) := za (K2.set 3 (.int .i64 1000)).s.X 5
  have f5 : (W2.setCell ⟨g, 3, none⟩ (.int .i64 1000)).frozen? ⟨g, 5, none⟩ = false := zh (K2.set 3 (.int .i64 1000)).s.X 5
  have x6 : ((W2.setCell ⟨g, 3, none⟩ (.int .i64 1000)).setCell ⟨g, 5, none⟩ (.int .i64 8)).cell? ⟨g, 6, none⟩ = some (.int .i64 0) := za ((K2.set 3 (.int .i64 1000)).set 5 (.int .i64 8)).s.X 6
  have f6 : ((W2.setCell ⟨g, 3, none⟩ (.int .i64 1000)).setCell ⟨g, 5, none⟩ (.int .i64 8)).frozen? ⟨g, 6, none⟩ = false := zh ((K2.set 3 (.int .i64 1000)).set 5 (.int .i64 8)).s.X 6
  have x7 : (((W2.setCell ⟨g, 3, none⟩ (.int .i64 1000)).setCell ⟨g, 5, none⟩ (.int .i64 8)).setCell ⟨g, 6, none⟩ (.int .i64 100000)).cell? ⟨g, 7, none⟩ = some (.int .i64 1) := za (((K2.set 3 (.int .i64 1000)).set 5 (.int .i64 8)).set 6 (.int .i64 100000)).s.X 7
  have f7 : (((W2.setCell ⟨g, 3, none⟩ (.int .i64 1000)).setCell ⟨g, 5, none⟩ (.int .i64 8)).setCell ⟨g, 6, none⟩ (.int .i64 100000)).frozen? ⟨g, 7, none⟩ = false := zh (((K2.set 3 (.int .i64 1000)).set 5 (.int .i64 8)).set 6 (.int .i64 100000)).s.X 7
  have x8 : ((((W2.setCell ⟨g, 3, none⟩ (.int .i64 1000)).setCell ⟨g, 5, none⟩ (.int .i64 8)).setCell ⟨g, 6, none⟩ (.int .i64 100000)).setCell ⟨g, 7, none⟩ (.int .i64 500)).cell? ⟨g, 8, none⟩ = some (.int .i64 1) := za ((((K2.set 3 (.int .i64 1000)).set 5 (.int .i64 8)).set 6 (.int .i64 100000)).set 7 (.int .i64 500)).s.X 8
  have f8 : ((((W2.setCell ⟨g, 3, none⟩ (.int .i64 1000)).setCell ⟨g, 5, none⟩ (.int .i64 8)).setCell ⟨g, 6, none⟩ (.int .i64 100000)).setCell ⟨g, 7, none⟩ (.int .i64 500)).frozen? ⟨g, 8, none⟩ = false := zh ((((K2.set 3 (.int .i64 1000)).set 5 (.int .i64 8)).set 6 (.int .i64 100000)).set 7 (.int .i64 500)).s.X 8
  have x4 : (((((W2.setCell ⟨g, 3, none⟩ (.int .i64 1000)).setCell ⟨g, 5, none⟩ (.int .i64 8)).setCell ⟨g, 6, none⟩ (.int .i64 100000)).setCell ⟨g, 7, none⟩ (.int .i64 500)).setCell ⟨g, 8, none⟩ (.int .i64 2000)).cell? ⟨g, 4, none⟩ = some (.int .i64 1) := za (((((K2.set 3 (.int .i64 1000)).set 5 (.int .i64 8)).set 6 (.int .i64 100000)).set 7 (.int .i64 500)).set 8 (.int .i64 2000)).s.X 4
  have f4 : (((((W2.setCell ⟨g, 3, none⟩ (.int .i64 1000)).setCell ⟨g, 5, none⟩ (.int .i64 8)).setCell ⟨g, 6, none⟩ (.int .i64 100000)).setCell ⟨g, 7, none⟩ (.int .i64 500)).setCell ⟨g, 8, none⟩ (.int .i64 2000)).frozen? ⟨g, 4, none⟩ = false := zh (((((K2.set 3 (.int .i64 1000)).set 5 (.int .i64 8)).set 6 (.int .i64 100000)).set 7 (.int .i64 500)).set 8 (.int .i64 2000)).s.X 4
  have x11 : ((((((W2.setCell ⟨g, 3, none⟩ (.int .i64 1000)).setCell ⟨g, 5, none⟩ (.int .i64 8)).setCell ⟨g, 6, none⟩ (.int .i64 100000)).setCell ⟨g, 7, none⟩ (.int .i64 500)).setCell ⟨g, 8, none⟩ (.int .i64 2000)).setCell ⟨g, 4, none⟩ (.int .i64 8)).cell? ⟨g, 11, none⟩ = some (.int .u64 18446744073709551615) := za ((((((K2.set 3 (.int .i64 1000)).set 5 (.int .i64 8)).set 6 (.int .i64 100000)).set 7 (.int .i64 500)).set 8 (.int .i64 2000)).set 4 (.int .i64 8)).s.X 11
  have f11 : ((((((W2.setCell ⟨g, 3, none⟩ (.int .i64 1000)).setCell ⟨g, 5, none⟩ (.int .i64 8)).setCell ⟨g, 6, none⟩ (.int .i64 100000)).setCell ⟨g, 7, none⟩ (.int .i64 500)).setCell ⟨g, 8, none⟩ (.int .i64 2000)).setCell ⟨g, 4, none⟩ (.int .i64 8)).frozen? ⟨g, 11, none⟩ = false := zh ((((((K2.set 3 (.int .i64 1000)).set 5 (.int .i64 8)).set 6 (.int .i64 100000)).set 7 (.int .i64 500)).set 8 (.int .i64 2000)).set 4 (.int .i64 8)).s.X 11
  have KF := hQ (((((((K2.set 3 (.int .i64 1000)).set 5 (.int .i64 8)).set 6 (.int .i64 100000)).set 7 (.int .i64 500)).set 8 (.int .i64 2000)).set 4 (.int .i64 8)).set 11 (.int .u64 0))
  obtain ⟨z0, z1, z2, z3, z4, z5, z6, z7, z8, z9, z10, z11, z12⟩ := KF.out.s.c
  obtain ⟨y0, y1, y2, y3, y4, y5, y6, y7, y8, y9, y10, y11, y12⟩ := KF.out.t.zc
  have fy := fun i => zh KF.out.t.X i
  clear K2
  go_wp2_with (fail)
  refine bodyPost_ret (v := .agg #[.slice (some ⟨a, 0, none⟩) 5 ca, .slice (some ⟨b, 0, none⟩) 3 cb, .int .i64 100, .int .i64 1000, .int .i64 8, .int .i64 8, .int .i64 100000, .int .i64 500, .int .i64 2000, .int .i64 1024, .int .i64 1024, .int .u64 0, .slice (some ⟨d, 0, none⟩) 3 3]) ?_ rfl ⟨_, _, _, _, _, rfl, qN (g1 := w.heap.size) (g2 := w.heap.size) (fun i h1 h2 => ?_) KF.out.t.X KF.out.t.X (by decide) KF.out.m, qN (g1 := w.heap.size) (g2 := w.heap.size) (fun i h1 h2 => ?_) KF.out.t.X KF.out.t.X (by decide) KF.out.r, qN (g1 := w.heap.size) (g2 := w.heap.size) (fun i h1 h2 => ?_) KF.out.t.X KF.out.t.X (by decide) KF.out.o, ?_⟩
  · simp [results, Tryz.results7, go_sem, hu30, y0, y1, y2, y3, y4, y5, y6, y7, y8, y9, y10, y11, y12]
  · iterate 13 rw [Below.heap_setCell _ _ _ i h1]
  · iterate 13 rw [Below.heap_setCell _ _ _ i h1]
  · iterate 13 rw [Below.heap_setCell _ _ _ i h1]
  · refine KF.out.t.B.trans ?_
    (repeat (with_reducible first | exact Below.refl _ _ | (refine jG ?_ (by omega))))
theorem zaB (w : World) : Calls Tryz.prog 7 #[] w fun e w' => ∃ v0_ v1_ v12_ : Value, e = .returned (.agg #[v0_, v1_, .int .i64 100, .int .i64 1000, .int .i64 8, .int .i64 8, .int .i64 100000, .int .i64 500, .int .i64 2000, .int .i64 1024, .int .i64 1024, .int .u64 0, v12_]) ∧ Kd.R k78 78 w' w.heap.size (fun _ => True) v0_ yA ∧ Kd.R k81 81 w' w.heap.size (fun _ => True) v1_ zY ∧ Kd.R k84 84 w' w.heap.size (fun _ => True) v12_ qB ∧ Below w.heap.size w w' :=
  (zdi w).mono (by
    rintro e w1 ⟨a, b, d, ca, cb, rfl, h1, h2, h3, h4⟩
    exact ⟨_, _, _, rfl, h1, h2, h3, h4⟩)
theorem KI (w : World) (Am Ag Ao : Option Addr) (cm cg co : Nat) (hM : Kd.C k78 w Am 5 yA) (hcm : 5 ≤ cm) (hG : Kd.C k81 w Ag 3 zY) (hO : Kd.C k84 w Ao 3 qB) (hco : 3 ≤ co) :
    Calls Tryz.prog 22 #[.agg #[.slice Am 5 cm, .slice Ag 3 cg, .int .i64 100, .int .i64 1000, .int .i64 8, .int .i64 8, .int .i64 100000, .int .i64 500, .int .i64 2000, .int .i64 1024, .int .i64 1024, .int .u64 0, .slice Ao 3 co]] w fun e w' => e = .returned (.int .i64 0) ∧ Below w.heap.size w w' := by
  have hu30 := Tryz.underlying30
  have HM := hQ hM
  have HG := hQ hG
  have HO := hQ hO
  have HCM := hQ hcm
  have HCO := hQ hco
  have S1 := hQ (show CfS w w.heap.size #[.slice Am 5 cm, .slice Ag 3 cg, .int .i64 100, .int .i64 1000, .int .i64 8, .int .i64 8, .int .i64 100000, .int .i64 500, .int .i64 2000, .int .i64 1024, .int .i64 1024, .int .u64 0, .slice Ao 3 co] (w.alloc (.cells #[.slice Am 5 cm, .slice Ag 3 cg, .int .i64 100, .int .i64 1000, .int .i64 8, .int .i64 8, .int .i64 100000, .int .i64 500, .int .i64 2000, .int .i64 1024, .int .i64 1024, .int .u64 0, .slice Ao 3 co] 30)) from ⟨zi w _, (Below.refl _ _).alloc (Nat.le_refl _) _, Nat.le_refl _⟩)
  clear hM hG hO hcm hco
  obtain ⟨z0, z1, z2, z3, z4, z5, z6, z7, z8, z9, z10, z11, z12⟩ := S1.out.c
  go_enter Tryz.func22, Tryz.ntmps22
  go_wp2_with (fail)
  refine (jw _ 1000 1 65535 (by decide)).mono ?_
  rintro e w2 ⟨rfl, hd⟩
  have S2 := hQ (S1.out.below hd.below)
  clear hd z0 z1 z2 z3 z4 z5 z6 z7 z8 z9 z10 z11 z12
  obtain ⟨z0, z1, z2, z3, z4, z5, z6, z7, z8, z9, z10, z11, z12⟩ := S2.out.c
  go_wp2_with (fail)
  refine (jw _ 8 1 32 (by decide)).mono ?_
  rintro e w3 ⟨rfl, hd⟩
  have S3 := hQ (S2.out.below hd.below)
  clear hd z0 z1 z2 z3 z4 z5 z6 z7 z8 z9 z10 z11 z12
  obtain ⟨z0, z1, z2, z3, z4, z5, z6, z7, z8, z9, z10, z11, z12⟩ := S3.out.c
  go_wp2_with (fail)
  refine (jw _ 8 0 32 (by decide)).mono ?_
  rintro e w4 ⟨rfl, hd⟩
  have S4 := hQ (S3.out.below hd.below)
  clear hd z0 z1 z2 z3 z4 z5 z6 z7 z8 z9 z10 z11 z12
  obtain ⟨z0, z1, z2, z3, z4, z5, z6, z7, z8, z9, z10, z11, z12⟩ := S4.out.c
  go_wp2_with (fail)
  refine (jw _ 100000 0 1048576 (by decide)).mono ?_
  rintro e w5 ⟨rfl, hd⟩
  have S5 := hQ (S4.out.below hd.below)
  clear hd z0 z1 z2 z3 z4 z5 z6 z7 z8 z9 z10 z11 z12
  obtain ⟨z0, z1, z2, z3, z4, z5, z6, z7, z8, z9, z10, z11, z12⟩ := S5.out.c
  go_wp2_with (fail)
  refine (jw _ 500 1 1000 (by decide)).mono ?_
  rintro e w6 ⟨rfl, hd⟩
  have S6 := hQ (S5.out.below hd.below)
  clear hd z0 z1 z2 z3 z4 z5 z6 z7 z8 z9 z10 z11 z12
  obtain ⟨z0, z1, z2, z3, z4, z5, z6, z7, z8, z9, z10, z11, z12⟩ := S6.out.c
  go_wp2_with (fail)
  refine (jw _ 2000 1 5000 (by decide)).mono ?_
  rintro e w7 ⟨rfl, hd⟩
  have S7 := hQ (S6.out.below hd.below)
  clear hd z0 z1 z2 z3 z4 z5 z6 z7 z8 z9 z10 z11 z12
  obtain ⟨z0, z1, z2, z3, z4, z5, z6, z7, z8, z9, z10, z11, z12⟩ := S7.out.c
  go_wp2_with (fail)
  refine (jw _ 1024 260 65536 (by decide)).mono ?_
  rintro e w8 ⟨rfl, hd⟩
  have S8 := hQ (S7.out.below hd.below)
  clear hd z0 z1 z2 z3 z4 z5 z6 z7 z8 z9 z10 z11 z12
  obtain ⟨z0, z1, z2, z3, z4, z5, z6, z7, z8, z9, z10, z11, z12⟩ := S8.out.c
  go_wp2_with (fail)
  refine (jw _ 1024 260 65536 (by decide)).mono ?_
  rintro e w9 ⟨rfl, hd⟩
  have S9 := hQ (S8.out.below hd.below)
  clear hd z0 z1 z2 z3 z4 z5 z6 z7 z8 z9 z10 z11 z12
  obtain ⟨z0, z1, z2, z3, z4, z5, z6, z7, z8, z9, z10, z11, z12⟩ := S9.out.c
  go_wp2_with (fail)
  refine (KW _ Am cm (Kd.zx HM.out S9.out.B) HCM.out).mono ?_
  rintro e w10 ⟨rfl, hd⟩
  have S10 := hQ (S9.out.below hd)
  clear hd z0 z1 z2 z3 z4 z5 z6 z7 z8 z9 z10 z11 z12
  obtain ⟨z0, z1, z2, z3, z4, z5, z6, z7, z8, z9, z10, z11, z12⟩ := S10.out.c
  go_wp2_with (fail)
  refine (JX _ Ag cg Am cm (Kd.zx HG.out S10.out.B) (Kd.zx HM.out S10.out.B) HCM.out).mono ?_
  rintro e w11 ⟨rfl, hd⟩
  have S11 := hQ (S10.out.below hd)
  clear hd z0 z1 z2 z3 z4 z5 z6 z7 z8 z9 z10 z11 z12
  obtain ⟨z0, z1, z2, z3, z4, z5, z6, z7, z8, z9, z10, z11, z12⟩ := S11.out.c
  go_wp2_with (fail)
  refine (Kk _ Ao co (Kd.zx HO.out S11.out.B) HCO.out).mono ?_
  rintro e w12 ⟨rfl, hd⟩
  have S12 := hQ (S11.out.below hd)
  clear hd z0 z1 z2 z3 z4 z5 z6 z7 z8 z9 z10 z11 z12
  obtain ⟨z0, z1, z2, z3, z4, z5, z6, z7, z8, z9, z10, z11, z12⟩ := S12.out.c
  go_wp2_with (fail)
  exact bodyPost_ret (v := .int .i64 0) (by simp [results, Tryz.results22, go_sem]) rfl ⟨rfl, S12.out.B⟩
end Go.Proofs.YtlalbohhopmpdaaGreat.Top
