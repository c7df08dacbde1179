/- Words and walks for TopSkew (made of the session's own texts; each part by itself). -/
import Derived.Deep.DeepCutAuto
import Derived.Deep.DeepMust
import Derived.Deep.RegionLaw
import Derived.RegionTactic
import Derived.ChangeAlike
import Derived.Laws.CopyOwn
import Derived.Outline
import Derived.Lib.Hide
import Derived.WalkSpells
import Derived.Test.YtlalbohhopmpdaaGreatZTopSkew10
set_option maxRecDepth 100000
set_option maxHeartbeats 8000000
set_option linter.unusedVariables false
set_option linter.unusedSimpArgs false
namespace Go.Proofs.YtlalbohhopmpdaaGreat.Top
open Go.RowKit Go.Proofs.YtlalbohhopmpdaaGreat.PTop Go.YW.PrintWords Go.YW.PrintLast Go.YW.PrintMore Go.Proofs.YtlalbohhopmpdaaGreat.Num Go.Proofs.YtlalbohhopmpdaaGreat.Tiny
attribute [local go_sem] zm zu
theorem zcz {P : Int → Prop} (h0 : P 0) (h1 : P 1) (h2 : P 2) (h3 : P 3) (h4 : P 4) (i : Int) (hi : 0 ≤ i) (hl : i < 5) : P i := by
  obtain rfl | rfl | rfl | rfl | rfl : i = 0 ∨ i = 1 ∨ i = 2 ∨ i = 3 ∨ i = 4 := by omega
  all_goals assumption
theorem zbo (w : World) (A : Option Addr) (c : Nat) (hC : Kd.C k78 w A 5 yD) : Calls Tryz.prog 90 #[.slice A 5 c] w fun e w' => e = .returned (.bool true) ∧ Below w.heap.size w w' :=
  zby w A c yD hC (by decide) (zcz (P := fun i => ZQ (zK yD i)) (by decide +kernel) (by decide +kernel) (by decide +kernel) (by decide +kernel) (by decide +kernel))
    (fun i hi hl => zcz (P := fun i => 0 < i → Qv (zK yD (i - 1)) (zK yD i)) (fun h => absurd h (by decide)) (fun _ => by decide +kernel) (fun _ => by decide +kernel) (fun _ => by decide +kernel) (fun _ => by decide +kernel) i (by omega) hl hi)
theorem za3 (i : Int) (h0 : 0 ≤ i) (h1 : i < yD.length) : qY (xx (zK yD i) ⟨2, 100, 108⟩) :=
  zcz (P := fun i => qY (xx (zK yD i) ⟨2, 100, 108⟩)) (by decide +kernel) (by decide +kernel) (by decide +kernel) (by decide +kernel) (by decide +kernel) i h0 h1
theorem KJ (w : World) (A : Option Addr) (c : Nat) (hC : Kd.C k78 w A 5 yD) (hc : 5 ≤ c) : Calls Tryz.prog 49 #[.slice A 5 c, .int .i64 100] w fun e w' => e = .returned (.int .i64 0) ∧ Below w.heap.size w w' := by
  have HC := hQ hC
  have HCC := hQ hc
  clear hC hc
  go_enter Tryz.func49, Tryz.ntmps49
  go_wp2_with (fail)
  refine (zbo w A c HC.out).mono ?_
  rintro e w1 ⟨rfl, hb⟩
  have B1 := hQ hb
  clear hb
  go_wp2_with (fail)
  refine (XX _).mono ?_
  rintro e w2 ⟨rfl, hb⟩
  have B2 := hQ (ze B1.out B1.out.size hb)
  clear hb
  go_wp2_with (fail)
  refine (KY _ A c yD ⟨2, 100, 108⟩ (Kd.zz HC.out B2.out) (by decide) za3).mono ?_
  rintro e w3 ⟨rfl, hb⟩
  have B3 := hQ (ze B2.out B2.out.size hb)
  clear hb
  go_wp2
  exact bodyPost_ret (v := .int .i64 0) (by simp [results, Tryz.results49, go_sem]) rfl ⟨rfl, B3.out⟩
theorem QO (w : World) (n : Int) (h : n = 2 ∨ n = 4) : Calls Tryz.prog 127 #[.int .i64 n] w fun e w' => e = .returned (.bool true) ∧ Below w.heap.size w w' := by
  rcases h with rfl | rfl
  all_goals
    go_enter Tryz.func127, Tryz.ntmps127
    go_wp2
    exact bodyPost_ret (v := .bool true) (by simp [results, Tryz.results127, go_sem]) rfl ⟨rfl, Below.refl _ _⟩
theorem zbF (w : World) : Calls Tryz.prog 93 #[.agg #[.int .i64 2, .int .i64 4, .int .i64 2]] w fun e w' => e = .returned (.int .i64 0) ∧ Below w.heap.size w w' := by
  have hu81 := Tryz.underlying81
  have hb1 : Below w.heap.size w (w.alloc (.cells #[.int .i64 2, .int .i64 4, .int .i64 2] 81)) := (Below.refl _ _).alloc (Nat.le_refl _) _
  have X1 := hQ (zi w (.cells #[.int .i64 2, .int .i64 4, .int .i64 2] 81 (0, 0)))
  have B1 := hQ hb1
  obtain ⟨x0, x1, x2⟩ := zV X1.out
  have hb : Go.bits .and .i64 4 1 = 0 := by decide +kernel
  clear hb1
  go_enter Tryz.func93, Tryz.ntmps93
  go_wp2_with (fail)
  refine (QO _ 2 (by decide)).mono ?_
  rintro e w2 ⟨rfl, hd⟩
  have B2 := hQ (ze B1.out B1.out.size hd)
  obtain ⟨y0, y1, y2⟩ := zV (zb X1.out hd)
  clear hd x0 x1 x2
  go_wp2
  exact bodyPost_ret (v := .int .i64 0) (by simp [results, Tryz.results93, go_sem]) rfl ⟨rfl, B2.out⟩
theorem zcf (w : World) : Calls Tryz.prog 93 #[.agg #[.int .i64 2, .int .i64 8, .int .i64 4]] w fun e w' => e = .returned (.int .i64 0) ∧ Below w.heap.size w w' := by
  have hu81 := Tryz.underlying81
  have hb1 : Below w.heap.size w (w.alloc (.cells #[.int .i64 2, .int .i64 8, .int .i64 4] 81)) := (Below.refl _ _).alloc (Nat.le_refl _) _
  have X1 := hQ (zi w (.cells #[.int .i64 2, .int .i64 8, .int .i64 4] 81 (0, 0)))
  have B1 := hQ hb1
  obtain ⟨x0, x1, x2⟩ := zV X1.out
  have hb : Go.bits .and .i64 8 3 = 0 := by decide +kernel
  clear hb1
  go_enter Tryz.func93, Tryz.ntmps93
  go_wp2_with (fail)
  refine (QO _ 4 (by decide)).mono ?_
  rintro e w2 ⟨rfl, hd⟩
  have B2 := hQ (ze B1.out B1.out.size hd)
  obtain ⟨y0, y1, y2⟩ := zV (zb X1.out hd)
  clear hd x0 x1 x2
  go_wp2
  exact bodyPost_ret (v := .int .i64 0) (by simp [results, Tryz.results93, go_sem]) rfl ⟨rfl, B2.out⟩
theorem zbK (w : World) : Calls Tryz.prog 93 #[.agg #[.int .i64 3, .int .i64 4, .int .i64 4]] w fun e w' => e = .returned (.int .i64 0) ∧ Below w.heap.size w w' := by
  have hu81 := Tryz.underlying81
  have hb1 : Below w.heap.size w (w.alloc (.cells #[.int .i64 3, .int .i64 4, .int .i64 4] 81)) := (Below.refl _ _).alloc (Nat.le_refl _) _
  have X1 := hQ (zi w (.cells #[.int .i64 3, .int .i64 4, .int .i64 4] 81 (0, 0)))
  have B1 := hQ hb1
  obtain ⟨x0, x1, x2⟩ := zV X1.out
  have hb : Go.bits .and .i64 4 3 = 0 := by decide +kernel
  clear hb1
  go_enter Tryz.func93, Tryz.ntmps93
  go_wp2_with (fail)
  refine (QO _ 4 (by decide)).mono ?_
  rintro e w2 ⟨rfl, hd⟩
  have B2 := hQ (ze B1.out B1.out.size hd)
  obtain ⟨y0, y1, y2⟩ := zV (zb X1.out hd)
  clear hd x0 x1 x2
  go_wp2
  exact bodyPost_ret (v := .int .i64 0) (by simp [results, Tryz.results93, go_sem]) rfl ⟨rfl, B2.out⟩
theorem zar (w : World) : Calls Tryz.prog 94 #[.agg #[.int .i64 2, .int .i64 8, .int .i64 4], .agg #[.int .i64 2, .int .i64 4, .int .i64 2]] w fun e w' => e = .returned (.bool true) ∧ Below w.heap.size w w' := by
  have hu81 := Tryz.underlying81
  have hb1 : Below w.heap.size w ((w.alloc (.cells #[.int .i64 2, .int .i64 8, .int .i64 4] 81)).alloc (.cells #[.int .i64 2, .int .i64 4, .int .i64 2] 81)) := ((Below.refl _ _).alloc (Nat.le_refl _) _).alloc (by simp) _
  have B1 := hQ hb1
  obtain ⟨x0, x1, x2⟩ := zV (zg (zi w (.cells #[.int .i64 2, .int .i64 8, .int .i64 4] 81 (0, 0))) (.cells #[.int .i64 2, .int .i64 4, .int .i64 2] 81))
  obtain ⟨y0, y1, y2⟩ := zV (vB w (.cells #[.int .i64 2, .int .i64 8, .int .i64 4] 81) (.cells #[.int .i64 2, .int .i64 4, .int .i64 2] 81 (0, 0)))
  clear hb1
  go_enter Tryz.func94, Tryz.ntmps94
  go_wp2
  exact bodyPost_ret (v := .bool true) (by simp [results, Tryz.results94, go_sem]) rfl ⟨rfl, B1.out⟩
theorem WL (w : World) : Calls Tryz.prog 94 #[.agg #[.int .i64 3, .int .i64 4, .int .i64 4], .agg #[.int .i64 2, .int .i64 8, .int .i64 4]] w fun e w' => e = .returned (.bool true) ∧ Below w.heap.size w w' := by
  have hu81 := Tryz.underlying81
  have hb1 : Below w.heap.size w ((w.alloc (.cells #[.int .i64 3, .int .i64 4, .int .i64 4] 81)).alloc (.cells #[.int .i64 2, .int .i64 8, .int .i64 4] 81)) := ((Below.refl _ _).alloc (Nat.le_refl _) _).alloc (by simp) _
  have B1 := hQ hb1
  obtain ⟨x0, x1, x2⟩ := zV (zg (zi w (.cells #[.int .i64 3, .int .i64 4, .int .i64 4] 81 (0, 0))) (.cells #[.int .i64 2, .int .i64 8, .int .i64 4] 81))
  obtain ⟨y0, y1, y2⟩ := zV (vB w (.cells #[.int .i64 3, .int .i64 4, .int .i64 4] 81) (.cells #[.int .i64 2, .int .i64 8, .int .i64 4] 81 (0, 0)))
  clear hb1
  go_enter Tryz.func94, Tryz.ntmps94
  go_wp2
  exact bodyPost_ret (v := .bool true) (by simp [results, Tryz.results94, go_sem]) rfl ⟨rfl, B1.out⟩
theorem Xk (w : World) (A : Option Addr) (c : Nat) (l : List S81) (Am : Option Addr) (cm : Nat) (hC : Kd.C k81 w A l.length l) (hl : l.length ≤ 1000) (hM : Kd.C k78 w Am 5 yD) (hcm : 5 ≤ cm)
    (hA : ∀ j : Int, 0 ≤ j → j < l.length → ∀ W, Calls Tryz.prog 93 #[.agg #[.int .i64 (zJ l j).f0, .int .i64 (zJ l j).f1, .int .i64 (zJ l j).f2]] W fun e w' => e = .returned (.int .i64 0) ∧ Below W.heap.size W w')
    (hB : ∀ j : Int, 0 < j → j < l.length → ∀ W, Calls Tryz.prog 94 #[.agg #[.int .i64 (zJ l j).f0, .int .i64 (zJ l j).f1, .int .i64 (zJ l j).f2], .agg #[.int .i64 (zJ l (j - 1)).f0, .int .i64 (zJ l (j - 1)).f1, .int .i64 (zJ l (j - 1)).f2]] W fun e w' => e = .returned (.bool true) ∧ Below W.heap.size W w')
    (hR : ∀ j : Int, 0 ≤ j → j < l.length → wrap64 ((zJ l j).f1 + (zJ l j).f2) = (zJ l j).f1 + (zJ l j).f2)
    (hV : ∀ j : Int, 0 ≤ j → j < l.length → ∃ i : Int, 0 ≤ i ∧ i < yD.length ∧ xx (zK yD i) ⟨(zJ l j).f0, (zJ l j).f1, (zJ l j).f1 + (zJ l j).f2⟩ = ⟨(zJ l j).f0, (zJ l j).f1, (zJ l j).f1 + (zJ l j).f2⟩) :
    Calls Tryz.prog 50 #[.slice A l.length c, .slice Am 5 cm] w fun e w' => e = .returned (.int .i64 0) ∧ Below w.heap.size w w' := by
  have hu81 := Tryz.underlying81
  have hu26 := Tryz.underlying26
  have HC := hQ hC
  have HL := hQ hl
  have HM := hQ hM
  have HCM := hQ hcm
  have HA := hQ hA
  have HB2 := hQ hB
  have HRW := hQ hR
  have HCV := hQ hV
  clear hC hl hM hcm hA hB hR hV
  go_enter Tryz.func50, Tryz.ntmps50
  go_wp2_with (fail)
  go_loopg [10] l.length (fun g_ v10 wx => ∃ j : Int, 0 ≤ j ∧ (g_ : Int) = l.length - j ∧ v10 = .int .i64 j ∧ zf (Below w.heap.size w wx))
  case atStart => exact ⟨0, by omega, by omega, rfl, ⟨Below.refl _ _⟩⟩
  case round =>
    obtain ⟨j, hj0, hg, rfl, HB⟩ := hrel
    by_cases he : j < (l.length : Int)
    · have hd : decide (j < (l.length : Int)) = true := dT he
      have HE := hQ (show 0 ≤ j ∧ j < (l.length : Int) ∧ (gk : Int) = l.length - j from ⟨hj0, he, hg⟩)
      obtain ⟨ad, e, hx0, hx1, hx2⟩ := Kh (Kd.zz HC.out HB.out) j hj0 he
      cases e
      have p0 : (0 ≤ j) = True := eq_true hj0
      have q0 : (j < (l.length : Int)) = True := eq_true he
      have hw : wrap64 (j - 1) = j - 1 := zA (by have := HL.out; omega) (by have := HL.out; omega)
      have hw1 : wrap64 (j + 1) = j + 1 := zA (by have := HL.out; omega) (by have := HL.out; omega)
      have hb1 : Below wr.heap.size wr (wr.alloc (.cells #[.int .i64 (zJ l j).f0, .int .i64 (zJ l j).f1, .int .i64 (zJ l j).f2] 81)) := (Below.refl _ _).alloc (Nat.le_refl _) _
      have B1 := hQ (ze HB.out HB.out.size hb1)
      have hX1 := zi wr (.cells #[.int .i64 (zJ l j).f0, .int .i64 (zJ l j).f1, .int .i64 (zJ l j).f2] 81 (0, 0))
      have X1 := hQ (show C3 ⟨wr.heap.size, 0, none⟩ (.int .i64 (zJ l j).f0) (.int .i64 (zJ l j).f1) (.int .i64 (zJ l j).f2) (wr.alloc (.cells #[.int .i64 (zJ l j).f0, .int .i64 (zJ l j).f1, .int .i64 (zJ l j).f2] 81)) from ⟨za hX1 0, za hX1 1, za hX1 2⟩)
      obtain ⟨s0, s1, s2⟩ := X1.out
      clear hb1 hX1 hj0 hg
      go_wp2_with (fail)
      refine (HA.out j HE.out.1 HE.out.2.1 _).mono ?_
      rintro e w2 ⟨rfl, hb⟩
      have B2 := hQ (ze B1.out B1.out.size hb)
      have X2 := hQ (C3.below X1.out hb)
      clear hb s0 s1 s2
      have B3 := hQ (ze B2.out B2.out.size (zk (Below.refl w2.heap.size w2)))
      have X3 := hQ (C3.below X2.out (zk (Below.refl w2.heap.size w2)))
      by_cases hz : 0 < j
      · have hd2 : decide (j > 0) = true := dT hz
        have HZ := hQ hz
        have pz : (1 ≤ j) = True := eq_true (by omega)
        have qz : (j - 1 < (l.length : Int)) = True := eq_true (by omega)
        obtain ⟨ad2, e, hy0, hy1, hy2⟩ := Kh (Kd.zz HC.out B3.out) (j - 1) (by omega) (by omega)
        cases e
        rw [show (j - 1).toNat = j.toNat - 1 by omega] at hy0 hy1 hy2
        have Y3 := hQ (show C3 (ad.add ((j.toNat - 1) * 3)) (.int .i64 (zJ l (j - 1)).f0) (.int .i64 (zJ l (j - 1)).f1) (.int .i64 (zJ l (j - 1)).f2) w2.drew from ⟨hy0, hy1, hy2⟩)
        clear hy0 hy1 hy2 hx0 hx1 hx2 he hz
        go_wp2_with (fail)
        refine sq_ (ds := []) #[false, false, false, false, false, false, false, false, false, false, false, false, false] (fun w' => w'.cell? ⟨wr.heap.size, 0, none⟩ = some (.int .i64 (zJ l j).f0) ∧ w'.cell? ⟨wr.heap.size, 1, none⟩ = some (.int .i64 (zJ l j).f1) ∧ w'.cell? ⟨wr.heap.size, 2, none⟩ = some (.int .i64 (zJ l j).f2) ∧ w'.cell? (ad.add ((j.toNat - 1) * 3)) = some (.int .i64 (zJ l (j - 1)).f0) ∧ w'.cell? ⟨(ad.add ((j.toNat - 1) * 3)).block, (ad.add ((j.toNat - 1) * 3)).off + 1, none⟩ = some (.int .i64 (zJ l (j - 1)).f1) ∧ w'.cell? ⟨(ad.add ((j.toNat - 1) * 3)).block, (ad.add ((j.toNat - 1) * 3)).off + 2, none⟩ = some (.int .i64 (zJ l (j - 1)).f2)) ⟨X3.out.1, X3.out.2.1, X3.out.2.2, Y3.out.1, Y3.out.2.1, Y3.out.2.2⟩ (fun hHeld => ?_)
        refine pq_ 0 (some 22) ?_
        refine pq_ 1 (some 23) ?_
        refine pq_ 2 (some 24) ?_
        refine pq_ 4 (some 26) ?_
        refine pq_ 5 (some 27) ?_
        refine pq_ 6 (some 28) ?_
        refine pq_ 7 (some 29) ?_
        refine tq_ 3 (some 25) hHeld ?_
        refine tq_ 8 (some 30) hHeld ?_
        refine oq_ 9 (some 31) (fun K hK => ?_)
        refine yo Tryz.func94 (by kernel_rfl) rfl #[.agg #[.int .i64 (zJ l j).f0, .int .i64 (zJ l j).f1, .int .i64 (zJ l j).f2], .agg #[.int .i64 (zJ l (j - 1)).f0, .int .i64 (zJ l (j - 1)).f1, .int .i64 (zJ l (j - 1)).f2]] (by rfl) rfl rfl (by (try simp only [List.map_toArray, List.map_cons, List.map_nil]); first | done | rfl) ?_
        refine (HB2.out j (by have := HZ.out; omega) HE.out.2.1 _).mono ?_
        rintro e w4 ⟨rfl, hd_⟩
        refine ⟨_, rfl, ?_⟩
        have B4 := hQ (ze B3.out B3.out.size hd_)
        have X4 := hQ (C3.below X3.out hd_)
        have Y4 := hQ (C3.below Y3.out hd_)
        clear hd_
        refine hK.out _ _ ⟨X4.out.1, X4.out.2.1, X4.out.2.2, Y4.out.1, Y4.out.2.1, Y4.out.2.2⟩ (fun hHeld => ?_)
        clear hK K
        refine nq_ ?_
        refine pq_ 10 (some 32) ?_
        refine pq_ 11 (some 33) ?_
        refine pq_ 12 (some 21) ?_
        refine xP (by kernel_rfl) ?_
        obtain ⟨s0, s1, s2⟩ := X4.out
        go_wp2_with (fail)
        refine (WV _ (zJ l j).f0 (zJ l j).f1 (zJ l j).f2 (HRW.out j HE.out.1 HE.out.2.1)).mono ?_
        rintro e w5 ⟨rfl, hd_⟩
        have B5 := hQ (ze B4.out B4.out.size hd_)
        clear hd_
        go_wp2_with (fail)
        refine (ZC _ Am cm yD ⟨(zJ l j).f0, (zJ l j).f1, (zJ l j).f1 + (zJ l j).f2⟩ true (Kd.zz HM.out B5.out) (by decide) (HCV.out j HE.out.1 HE.out.2.1)).mono ?_
        rintro e w6 ⟨rfl, hd_⟩
        have B6 := hQ (ze B5.out B5.out.size hd_)
        clear hd_
        go_wp2
        go_roundg (l.length - (j + 1)).toNat
        case measure => have := HE.out; omega
        case rel => have := HE.out; exact ⟨j + 1, by omega, by omega, by first | rfl | rw [hw1], ⟨B6.out⟩⟩
      · have hd2 : decide (j > 0) = false := dF hz
        have B4 := B3
        clear hx0 hx1 hx2 he hz
        go_wp2_with (fail)
        obtain ⟨s0, s1, s2⟩ := X3.out
        go_region
        go_wp2_with (fail)
        refine (WV _ (zJ l j).f0 (zJ l j).f1 (zJ l j).f2 (HRW.out j HE.out.1 HE.out.2.1)).mono ?_
        rintro e w5 ⟨rfl, hd_⟩
        have B5 := hQ (ze B4.out B4.out.size hd_)
        clear hd_
        go_wp2_with (fail)
        refine (ZC _ Am cm yD ⟨(zJ l j).f0, (zJ l j).f1, (zJ l j).f1 + (zJ l j).f2⟩ true (Kd.zz HM.out B5.out) (by decide) (HCV.out j HE.out.1 HE.out.2.1)).mono ?_
        rintro e w6 ⟨rfl, hd_⟩
        have B6 := hQ (ze B5.out B5.out.size hd_)
        clear hd_
        go_wp2
        go_roundg (l.length - (j + 1)).toNat
        case measure => have := HE.out; omega
        case rel => have := HE.out; exact ⟨j + 1, by omega, by omega, by first | rfl | rw [hw1], ⟨B6.out⟩⟩
    · have hd : decide (j < (l.length : Int)) = false := dF he
      clear he hj0 hg
      go_wp2
      exact bodyPost_ret (v := .int .i64 0) (by simp [results, Tryz.results50, go_sem]) rfl ⟨rfl, HB.out⟩
theorem zbk : zJ yl 0 = ⟨2, 4, 2⟩ := rfl
theorem WO : zJ yl 1 = ⟨2, 8, 4⟩ := rfl
theorem zb6 : zJ yl 2 = ⟨3, 4, 4⟩ := rfl
theorem Vh (a b : Int) (h : 0 ≤ a ∧ a < 1000 ∧ 0 ≤ b ∧ b < 1000) : wrap64 (a + b) = a + b := zA (by omega) (by omega)
theorem QQ (w : World) (A : Option Addr) (c : Nat) (Am : Option Addr) (cm : Nat) (hC : Kd.C k81 w A 3 yl) (hM : Kd.C k78 w Am 5 yD) (hcm : 5 ≤ cm) :
    Calls Tryz.prog 50 #[.slice A 3 c, .slice Am 5 cm] w fun e w' => e = .returned (.int .i64 0) ∧ Below w.heap.size w w' := by
  have h3 : ∀ j : Int, 0 ≤ j → j < yl.length → j = 0 ∨ j = 1 ∨ j = 2 := fun j h0 h1 => by
    have : (yl.length : Int) = 3 := rfl
    omega
  refine Xk w A c yl Am cm hC (by decide) hM hcm (fun j h0 h1 W => ?_) (fun j h0 h1 W => ?_) (fun j h0 h1 => ?_) (fun j h0 h1 => ?_)
  · rcases h3 j h0 h1 with rfl | rfl | rfl
    · rw [zbk]; exact zbF W
    · rw [WO]; exact zcf W
    · rw [zb6]; exact zbK W
  · rcases h3 j (by omega) h1 with rfl | rfl | rfl
    · exact absurd h0 (by decide)
    · rw [show (1 : Int) - 1 = 0 from rfl, zbk, WO]; exact zar W
    · rw [show (2 : Int) - 1 = 1 from rfl, WO, zb6]; exact WL W
  · rcases h3 j h0 h1 with rfl | rfl | rfl
    · rw [zbk]; exact Vh 4 2 (by decide)
    · rw [WO]; exact Vh 8 4 (by decide)
    · rw [zb6]; exact Vh 4 4 (by decide)
  · rcases h3 j h0 h1 with rfl | rfl | rfl
    · rw [zbk]; exact ⟨2, by decide, by decide, by kernel_rfl⟩
    · rw [WO]; exact ⟨2, by decide, by decide, by kernel_rfl⟩
    · rw [zb6]; exact ⟨4, by decide, by decide, by kernel_rfl⟩
end Go.Proofs.YtlalbohhopmpdaaGreat.Top
namespace Go.Proofs.YtlalbohhopmpdaaGreat.Top
open Go.RowKit Go.Proofs.YtlalbohhopmpdaaGreat.PTop Go.YW.PrintWords Go.YW.PrintLast Go.YW.PrintMore Go.Proofs.YtlalbohhopmpdaaGreat.Num
theorem qN : (Tryz.prog.info? 78).map (fun i => (i.zero, i.size, i.bytes)) = some (some (.agg #[(.int .i64 0), (.int .i64 0), (.int .i64 0)]), 3, 24) := by kernel_rfl
theorem Jt (A0 : Option Addr) (c0 : Nat) (l0 : List S78) (w : World) (hr0 : Kd.C (k78) w A0 l0.length l0) (hc0 : l0.length ≤ c0) (hlt : l0.length ≤ 100000) :
    Calls Tryz.prog 23 #[.slice A0 l0.length c0] w fun e w' => ∃ A c, e = .returned (.slice A l0.length c) ∧ Kd.R (k78) 78 w' w.heap.size (fun _ => True) (.slice A l0.length c) l0 ∧ Below w.heap.size w w' := by
  have hnil := @Lib.run_eql_slice_nil Tryz.prog
  cases A0 with
  | none =>
    have hl : l0 = [] := by
      rcases Nat.eq_zero_or_pos l0.length with h0 | h0
      · exact List.eq_nil_of_length_eq_zero h0
      · obtain ⟨ad, e, _⟩ := hr0.2.2 h0
        cases e
    subst hl
    go_enter Tryz.func23, Tryz.ntmps23
    go_wp2
    go_ret
    exact ⟨_, _, rfl, Kd.xM _ _ _ _ _, Below.refl _ _⟩
  | some a0 =>
    go_enter Tryz.func23, Tryz.ntmps23
    have HR := zf.mk hr0
    have HL := zf.mk hlt
    clear hr0 hlt
    go_wp2_with (first | ((with_reducible refine zS (N := 5) rfl ?_); refine Kd.kU (k78) (w0 := w) w.heap.size 78 ?hg (N := 5) ?hd (xs := ([] : List S78)) (inner := []) (ok := fun _ => True) (okp := fun _ => True) ?hr (yK.none _ _) (fun _ h => h) trivial (Below.refl _ _) (Nat.le_refl _) (by simp) ?_; (case hd => rfl); (case hg => rfl); (case hr => first | (go_simp; done) | (go_simp; rfl)); intro v1 w1 ho hb hg_ _; have HO := zf.mk ho; have HB := zf.mk hb; clear ho hb hg_) | ((with_reducible refine zZ (b := .append) (xs := #[.tmp 5, .tmp 6]) (ts := #[25, 25]) rfl ?_); refine Kd.yA (k78) (w0 := w) w.heap.size rfl (.tmp 5) (.tmp 6) 25 78 (.agg #[(.int .i64 0), (.int .i64 0), (.int .i64 0)]) 24 rfl Tryz.underlying25 qN rfl (by decide) (by omega) _ ([] : List S78) l0 _ _ _ (fun _ => True) (fun _ => False) rfl rfl HO.out (Kd.zz HR.out HB.out) (fun (y : S78) (cs : List Value) (h : k78.K _ y cs) => by rw [YJ h]; exact qC _ _ _ y) (fun _ h => h.elim) (fun _ _ => trivial) HB.out HB.out.size ?aL ?_; (case aL => have := HL.out; simp; omega); intro v2 w2 ho hb hg_ _; have HO2 := zf.mk ho; have HB2 := zf.mk hb; clear ho hb hg_))
    go_ret
    have ho := HO2.out
    rw [List.nil_append] at ho
    obtain ⟨A, c, rfl⟩ := Kd.zX ho
    exact ⟨A, c, rfl, ho, HB2.out⟩
theorem Yv : (Tryz.prog.info? 208).map (fun i => (i.zero, i.size, i.bytes)) = some (some (.agg #[(.int .i64 0), (.int .i64 0), (.int .u16 0)]), 3, 24) := by kernel_rfl
theorem za2 (A0 : Option Addr) (c0 : Nat) (l0 : List xz) (w : World) (hr0 : Kd.C (qp) w A0 l0.length l0) (hc0 : l0.length ≤ c0) (hlt : l0.length ≤ 100000) :
    Calls Tryz.prog 251 #[.slice A0 l0.length c0] w fun e w' => ∃ A c, e = .returned (.slice A l0.length c) ∧ Kd.R (qp) 208 w' w.heap.size (fun _ => True) (.slice A l0.length c) l0 ∧ Below w.heap.size w w' := by
  have hnil := @Lib.run_eql_slice_nil Tryz.prog
  cases A0 with
  | none =>
    have hl : l0 = [] := by
      rcases Nat.eq_zero_or_pos l0.length with h0 | h0
      · exact List.eq_nil_of_length_eq_zero h0
      · obtain ⟨ad, e, _⟩ := hr0.2.2 h0
        cases e
    subst hl
    go_enter Tryz.func251, Tryz.ntmps251
    go_wp2
    go_ret
    exact ⟨_, _, rfl, Kd.xM _ _ _ _ _, Below.refl _ _⟩
  | some a0 =>
    go_enter Tryz.func251, Tryz.ntmps251
    have HR := zf.mk hr0
    have HL := zf.mk hlt
    clear hr0 hlt
    go_wp2_with (first | ((with_reducible refine zS (N := 5) rfl ?_); refine Kd.kU (qp) (w0 := w) w.heap.size 208 ?hg (N := 5) ?hd (xs := ([] : List xz)) (inner := []) (ok := fun _ => True) (okp := fun _ => True) ?hr (yK.none _ _) (fun _ h => h) trivial (Below.refl _ _) (Nat.le_refl _) (by simp) ?_; (case hd => rfl); (case hg => rfl); (case hr => first | (go_simp; done) | (go_simp; rfl)); intro v1 w1 ho hb hg_ _; have HO := zf.mk ho; have HB := zf.mk hb; clear ho hb hg_) | ((with_reducible refine zZ (b := .append) (xs := #[.tmp 5, .tmp 6]) (ts := #[155, 155]) rfl ?_); refine Kd.yA (qp) (w0 := w) w.heap.size rfl (.tmp 5) (.tmp 6) 155 208 (.agg #[(.int .i64 0), (.int .i64 0), (.int .u16 0)]) 24 rfl Tryz.underlying155 Yv rfl (by decide) (by omega) _ ([] : List xz) l0 _ _ _ (fun _ => True) (fun _ => False) rfl rfl HO.out (Kd.zz HR.out HB.out) (fun (y : xz) (cs : List Value) (h : qp.K _ y cs) => by rw [XT h]; exact vg _ _ _ y) (fun _ h => h.elim) (fun _ _ => trivial) HB.out HB.out.size ?aL ?_; (case aL => have := HL.out; simp; omega); intro v2 w2 ho hb hg_ _; have HO2 := zf.mk ho; have HB2 := zf.mk hb; clear ho hb hg_))
    go_ret
    have ho := HO2.out
    rw [List.nil_append] at ho
    obtain ⟨A, c, rfl⟩ := Kd.zX ho
    exact ⟨A, c, rfl, ho, HB2.out⟩
theorem zbJ : (Tryz.prog.info? 81).map (fun i => (i.zero, i.size, i.bytes)) = some (some (.agg #[(.int .i64 0), (.int .i64 0), (.int .i64 0)]), 3, 24) := by kernel_rfl
theorem zaM (A0 : Option Addr) (c0 : Nat) (l0 : List S81) (w : World) (hr0 : Kd.C (k81) w A0 l0.length l0) (hc0 : l0.length ≤ c0) (hlt : l0.length ≤ 100000) :
    Calls Tryz.prog 24 #[.slice A0 l0.length c0] w fun e w' => ∃ A c, e = .returned (.slice A l0.length c) ∧ Kd.R (k81) 81 w' w.heap.size (fun _ => True) (.slice A l0.length c) l0 ∧ Below w.heap.size w w' := by
  have hnil := @Lib.run_eql_slice_nil Tryz.prog
  cases A0 with
  | none =>
    have hl : l0 = [] := by
      rcases Nat.eq_zero_or_pos l0.length with h0 | h0
      · exact List.eq_nil_of_length_eq_zero h0
      · obtain ⟨ad, e, _⟩ := hr0.2.2 h0
        cases e
    subst hl
    go_enter Tryz.func24, Tryz.ntmps24
    go_wp2
    go_ret
    exact ⟨_, _, rfl, Kd.xM _ _ _ _ _, Below.refl _ _⟩
  | some a0 =>
    go_enter Tryz.func24, Tryz.ntmps24
    have HR := zf.mk hr0
    have HL := zf.mk hlt
    clear hr0 hlt
    go_wp2_with (first | ((with_reducible refine zS (N := 5) rfl ?_); refine Kd.kU (k81) (w0 := w) w.heap.size 81 ?hg (N := 5) ?hd (xs := ([] : List S81)) (inner := []) (ok := fun _ => True) (okp := fun _ => True) ?hr (yK.none _ _) (fun _ h => h) trivial (Below.refl _ _) (Nat.le_refl _) (by simp) ?_; (case hd => rfl); (case hg => rfl); (case hr => first | (go_simp; done) | (go_simp; rfl)); intro v1 w1 ho hb hg_ _; have HO := zf.mk ho; have HB := zf.mk hb; clear ho hb hg_) | ((with_reducible refine zZ (b := .append) (xs := #[.tmp 5, .tmp 6]) (ts := #[26, 26]) rfl ?_); refine Kd.yA (k81) (w0 := w) w.heap.size rfl (.tmp 5) (.tmp 6) 26 81 (.agg #[(.int .i64 0), (.int .i64 0), (.int .i64 0)]) 24 rfl Tryz.underlying26 zbJ rfl (by decide) (by omega) _ ([] : List S81) l0 _ _ _ (fun _ => True) (fun _ => False) rfl rfl HO.out (Kd.zz HR.out HB.out) (fun (y : S81) (cs : List Value) (h : k81.K _ y cs) => by rw [Jc h]; exact Yy _ _ _ y) (fun _ h => h.elim) (fun _ _ => trivial) HB.out HB.out.size ?aL ?_; (case aL => have := HL.out; simp; omega); intro v2 w2 ho hb hg_ _; have HO2 := zf.mk ho; have HB2 := zf.mk hb; clear ho hb hg_))
    go_ret
    have ho := HO2.out
    rw [List.nil_append] at ho
    obtain ⟨A, c, rfl⟩ := Kd.zX ho
    exact ⟨A, c, rfl, ho, HB2.out⟩
theorem zb1 : (Tryz.prog.info? 84).map (fun i => (i.zero, i.size, i.bytes)) = some (some (.agg #[(.int .i64 0), (.string ⟨#[]⟩)]), 2, 24) := by kernel_rfl
theorem zaD (A0 : Option Addr) (c0 : Nat) (l0 : List S84) (w : World) (hr0 : Kd.C (k84) w A0 l0.length l0) (hc0 : l0.length ≤ c0) (hlt : l0.length ≤ 100000) :
    Calls Tryz.prog 25 #[.slice A0 l0.length c0] w fun e w' => ∃ A c, e = .returned (.slice A l0.length c) ∧ Kd.R (k84) 84 w' w.heap.size (fun _ => True) (.slice A l0.length c) l0 ∧ Below w.heap.size w w' := by
  have hnil := @Lib.run_eql_slice_nil Tryz.prog
  cases A0 with
  | none =>
    have hl : l0 = [] := by
      rcases Nat.eq_zero_or_pos l0.length with h0 | h0
      · exact List.eq_nil_of_length_eq_zero h0
      · obtain ⟨ad, e, _⟩ := hr0.2.2 h0
        cases e
    subst hl
    go_enter Tryz.func25, Tryz.ntmps25
    go_wp2
    go_ret
    exact ⟨_, _, rfl, Kd.xM _ _ _ _ _, Below.refl _ _⟩
  | some a0 =>
    go_enter Tryz.func25, Tryz.ntmps25
    have HR := zf.mk hr0
    have HL := zf.mk hlt
    clear hr0 hlt
    go_wp2_with (first | ((with_reducible refine zS (N := 5) rfl ?_); refine Kd.kU (k84) (w0 := w) w.heap.size 84 ?hg (N := 5) ?hd (xs := ([] : List S84)) (inner := []) (ok := fun _ => True) (okp := fun _ => True) ?hr (yK.none _ _) (fun _ h => h) trivial (Below.refl _ _) (Nat.le_refl _) (by simp) ?_; (case hd => rfl); (case hg => rfl); (case hr => first | (go_simp; done) | (go_simp; rfl)); intro v1 w1 ho hb hg_ _; have HO := zf.mk ho; have HB := zf.mk hb; clear ho hb hg_) | ((with_reducible refine zZ (b := .append) (xs := #[.tmp 5, .tmp 6]) (ts := #[28, 28]) rfl ?_); refine Kd.yA (k84) (w0 := w) w.heap.size rfl (.tmp 5) (.tmp 6) 28 84 (.agg #[(.int .i64 0), (.string ⟨#[]⟩)]) 24 rfl Tryz.underlying28 zb1 rfl (by decide) (by omega) _ ([] : List S84) l0 _ _ _ (fun _ => True) (fun _ => False) rfl rfl HO.out (Kd.zz HR.out HB.out) (fun (y : S84) (cs : List Value) (h : k84.K _ y cs) => by rw [QX h]; exact Yu _ _ _ y) (fun _ h => h.elim) (fun _ _ => trivial) HB.out HB.out.size ?aL ?_; (case aL => have := HL.out; simp; omega); intro v2 w2 ho hb hg_ _; have HO2 := zf.mk ho; have HB2 := zf.mk hb; clear ho hb hg_))
    go_ret
    have ho := HO2.out
    rw [List.nil_append] at ho
    obtain ⟨A, c, rfl⟩ := Kd.zX ho
    exact ⟨A, c, rfl, ho, HB2.out⟩
theorem Vk : (Tryz.prog.info? 33).map (fun i => (i.zero, i.size, i.bytes)) = some (some (.int .u16 0), 1, 2) := by kernel_rfl
theorem zaw (A0 : Option Addr) (c0 : Nat) (l0 : List Int) (w : World) (hr0 : Kd.C (Kd.int .u16) w A0 l0.length l0) (hc0 : l0.length ≤ c0) (hlt : l0.length ≤ 100000) :
    Calls Tryz.prog 207 #[.slice A0 l0.length c0] w fun e w' => ∃ A c, e = .returned (.slice A l0.length c) ∧ Kd.R (Kd.int .u16) 33 w' w.heap.size (fun _ => True) (.slice A l0.length c) l0 ∧ Below w.heap.size w w' := by
  have hnil := @Lib.run_eql_slice_nil Tryz.prog
  cases A0 with
  | none =>
    have hl : l0 = [] := by
      rcases Nat.eq_zero_or_pos l0.length with h0 | h0
      · exact List.eq_nil_of_length_eq_zero h0
      · obtain ⟨ad, e, _⟩ := hr0.2.2 h0
        cases e
    subst hl
    go_enter Tryz.func207, Tryz.ntmps207
    go_wp2
    go_ret
    exact ⟨_, _, rfl, Kd.xM _ _ _ _ _, Below.refl _ _⟩
  | some a0 =>
    go_enter Tryz.func207, Tryz.ntmps207
    have HR := zf.mk hr0
    have HL := zf.mk hlt
    clear hr0 hlt
    go_wp2_with (first | ((with_reducible refine zS (N := 5) rfl ?_); refine Kd.kU (Kd.int .u16) (w0 := w) w.heap.size 33 ?hg (N := 5) ?hd (xs := ([] : List Int)) (inner := []) (ok := fun _ => True) (okp := fun _ => True) ?hr (yK.none _ _) (fun _ h => h) trivial (Below.refl _ _) (Nat.le_refl _) (by simp) ?_; (case hd => rfl); (case hg => rfl); (case hr => first | (go_simp; done) | (go_simp; rfl)); intro v1 w1 ho hb hg_ _; have HO := zf.mk ho; have HB := zf.mk hb; clear ho hb hg_) | ((with_reducible refine zZ (b := .append) (xs := #[.tmp 5, .tmp 6]) (ts := #[35, 35]) rfl ?_); refine Kd.yA (Kd.int .u16) (w0 := w) w.heap.size rfl (.tmp 5) (.tmp 6) 35 33 (.int .u16 0) 2 rfl Tryz.underlying35 Vk rfl (by decide) (by omega) _ ([] : List Int) l0 _ _ _ (fun _ => True) (fun _ => False) rfl rfl HO.out (Kd.zz HR.out HB.out) (fun _ _ h => h) (fun _ h => h.elim) (fun _ _ => trivial) HB.out HB.out.size ?aL ?_; (case aL => have := HL.out; simp; omega); intro v2 w2 ho hb hg_ _; have HO2 := zf.mk ho; have HB2 := zf.mk hb; clear ho hb hg_))
    go_ret
    have ho := HO2.out
    rw [List.nil_append] at ho
    obtain ⟨A, c, rfl⟩ := Kd.zX ho
    exact ⟨A, c, rfl, ho, HB2.out⟩
end Go.Proofs.YtlalbohhopmpdaaGreat.Top
namespace Go.Proofs.YtlalbohhopmpdaaGreat.Top
open Go.RowKit Go.Proofs.YtlalbohhopmpdaaGreat.PTop Go.YW.PrintWords Go.YW.PrintLast Go.YW.PrintMore Go.Proofs.YtlalbohhopmpdaaGreat.Num
attribute [local go_sem] zm zu
theorem qB {w w1 : World} {g1 g2 t base : Nat} {cs1 cs2 : Array Value} {x1 x2 : Nat × Nat} {α : Type} {d : Kd α} {e : Nat} {v : Value} {xs : List α} (hb : ∀ i, i ≠ g1 → i ≠ g2 → w1.heap[i]? = w.heap[i]?) (h1 : w.heap[g1]? = some (.cells cs1 t x1)) (h2 : w.heap[g2]? = some (.cells cs2 t x2)) (ht : ∀ q, q ∈ e :: d.E → q ≠ t) (hr : Kd.R d e w base (fun _ => True) v xs) : Kd.R d e w1 base (fun _ => True) v xs := by
  refine Kd.yQ (Kd.ZR (Kd.xW hr) (fun k hk => ?_)) (fun _ _ => trivial)
  obtain ⟨_, _, _, q, hq, cells, hc⟩ := hk
  refine hb k (fun e => ?_) (fun e => ?_)
  · subst e
    rw [hc] at h1
    injection h1 with h1
    injection h1 with _ h1
    exact ht q hq h1
  · subst e
    rw [hc] at h2
    injection h2 with h2
    injection h2 with _ h2
    exact ht q hq h2
theorem QR (w : World) (B : Nat) (v : Value) (x : VS) (h : xH w B v x) (h1 : x.reads.length ≤ 1000) (h2 : x.writes.length ≤ 1000) :
    Calls Tryz.prog 241 #[v] w fun e w' => ∃ v', e = .returned v' ∧ xH w' w.heap.size v' x ∧ Below w.heap.size w w' := by
  obtain ⟨A1, c1, A2, c2, rfl, r1, r2⟩ := h
  have hu162 := Tryz.underlying162
  have C1 := hQ (Kd.zw r1).2
  have C2 := hQ (Kd.zw r2).2
  have H1 := hQ h1
  have H2 := hQ h2
  clear r1 r2 h1 h2
  have hb0 : Below w.heap.size w (((w.alloc (.cells #[.int .u64 x.snap, .slice A1 x.reads.length c1, .slice A2 x.writes.length c2] 162)).alloc (.cells #[.int .u64 0, .slice none 0 0, .slice none 0 0] 162)).drew) := (((Below.refl _ _).alloc (Nat.le_refl _) _).alloc (by simp) _).trans (zk (Below.refl _ _))
  have B0 := hQ hb0
  have X0 := hQ (zb (zg (zi w (.cells #[.int .u64 x.snap, .slice A1 x.reads.length c1, .slice A2 x.writes.length c2] 162 (0, 0))) (.cells #[.int .u64 0, .slice none 0 0, .slice none 0 0] 162 (0, 0))) (zk (Below.refl _ _)))
  have Y0 := hQ (zb (zi (w.alloc (.cells #[.int .u64 x.snap, .slice A1 x.reads.length c1, .slice A2 x.writes.length c2] 162 (0, 0))) (.cells #[.int .u64 0, .slice none 0 0, .slice none 0 0] 162 (0, 0))) (zk (Below.refl _ _)))
  rw [show (w.alloc (.cells #[.int .u64 x.snap, .slice A1 x.reads.length c1, .slice A2 x.writes.length c2] 162 (0, 0))).heap.size = w.heap.size + 1 by simp] at Y0
  clear hb0
  go_enter Tryz.func241, Tryz.ntmps241
  go_wp2_with (fail)
  go_region_law (first | (go_simp; go_at_call 23; refine (Jt A1 c1 x.reads _ (Kd.zz C1.out.2 B0.out) C1.out.1 (by have := H1.out; omega)).mono ?_; rintro e w2 ⟨A3, c3, rfl, hr, hb⟩; have R1 := hQ hr; have B1 := hQ (ze B0.out B0.out.size hb); have X1 := hQ (zb X0.out hb); have Y1 := hQ (zb Y0.out hb); have k0 : w2.cell? ⟨w.heap.size, 0, none⟩ = some (.int .u64 x.snap) := za X1.out 0; have k1 : w2.cell? ⟨w.heap.size, 1, none⟩ = some (.slice A1 x.reads.length c1) := za X1.out 1; have k2 : w2.cell? ⟨w.heap.size, 2, none⟩ = some (.slice A2 x.writes.length c2) := za X1.out 2; have f1 := zh X1.out 1; have f2 := zh X1.out 2; clear hr hb) | (go_simp; go_at_call 251; refine (za2 A2 c2 x.writes _ (Kd.zz C2.out.2 B1.out) C2.out.1 (by have := H2.out; omega)).mono ?_; rintro e w3 ⟨A4, c4, rfl, hr, hb⟩; have R2 := hQ hr; have B2 := hQ (ze B1.out B1.out.size hb); have X2 := hQ (zb X1.out hb); have Y2 := hQ (zb Y1.out hb); have m0 : w3.cell? ⟨w.heap.size, 0, none⟩ = some (.int .u64 x.snap) := za X2.out 0; have m1 : w3.cell? ⟨w.heap.size, 1, none⟩ = some (.slice A1 x.reads.length c1) := za X2.out 1; have m2 : w3.cell? ⟨w.heap.size, 2, none⟩ = some (.slice A2 x.writes.length c2) := za X2.out 2; have g1 := zh X2.out 1; have g2 := zh X2.out 2; have n0 : w3.cell? ⟨w.heap.size + 1, 0, none⟩ = some (.int .u64 0) := za Y2.out 0; have n1 : w3.cell? ⟨w.heap.size + 1, 1, none⟩ = some (.slice none 0 0) := za Y2.out 1; have n2 : w3.cell? ⟨w.heap.size + 1, 2, none⟩ = some (.slice none 0 0) := za Y2.out 2; have z0 := zh Y2.out 0; have z1 := zh Y2.out 1; have z2 := zh Y2.out 2; have R1' := hQ (Kd.zy R1.out hb); clear hr hb))
  all_goals
    go_wp2
    refine bodyPost_ret (v := .agg #[.int .u64 x.snap, .slice A3 x.reads.length c3, .slice A4 x.writes.length c4]) ?_ rfl ?_
    · simp [results, Tryz.results241, go_sem, hu162, n0, n1, n2]
    refine ⟨_, rfl, ⟨A3, c3, A4, c4, rfl, ?_, ?_⟩, ?_⟩
    · refine qB (fun i h1 h2 => ?_) X2.out Y2.out (by decide) (Kd.zU R1'.out B0.out.size)
      rw [Below.heap_setCell _ _ _ i h2, Below.heap_setCell _ _ _ i h2, Below.heap_setCell _ _ _ i h2, Below.heap_setCell _ _ _ i h1, Below.heap_setCell _ _ _ i h1]
    · refine qB (fun i h1 h2 => ?_) X2.out Y2.out (by decide) (Kd.zU R2.out B1.out.size)
      rw [Below.heap_setCell _ _ _ i h2, Below.heap_setCell _ _ _ i h2, Below.heap_setCell _ _ _ i h2, Below.heap_setCell _ _ _ i h1, Below.heap_setCell _ _ _ i h1]
    · exact ((((B2.out.setCell (Nat.le_refl _) _).setCell (Nat.le_refl _) _).setCell (Nat.le_succ _) _).setCell (Nat.le_succ _) _).setCell (Nat.le_succ _) _
def jb (ch : Int × Int → List xY) (t a q : Int) (n : Nat) : List Int := (List.range n).map (fun (i : Nat) => Wj (ch (t, a + (i : Int))) q)
theorem XI (ch : Int × Int → List xY) (t a q : Int) (n : Nat) : (jb ch t a q n).length = n := by simp [jb]
theorem Ku (ch : Int × Int → List xY) (t a q : Int) (n : Nat) : jb ch t a q (n + 1) = jb ch t a q n ++ [Wj (ch (t, a + (n : Int))) q] := by
  unfold jb
  rw [List.range_succ, List.map_append]
  rfl
theorem XG (w : World) (B N st mst : Nat) (s : SS) (h : yP w B N st mst s) (hs : ky s.ch) (q : Int) (A1 A2 : Option Addr) (n1 c1 c2 : Nat) (t a b : Int) (ht : 0 ≤ t ∧ t < 4) (ha : 0 ≤ a ∧ a ≤ b ∧ b ≤ 65536) (n : Nat) (hn : (n : Int) = b - a) :
    Calls Tryz.prog 214 #[.pointer (some ⟨st, 0, none⟩), .agg #[.int .u64 q, .slice A1 n1 c1, .slice A2 0 c2], .agg #[.int .i64 t, .int .i64 a, .int .i64 b]] w fun e w' => ∃ A c, e = .returned (.slice A n c) ∧ Kd.R (Kd.int .u16) 33 w' w.heap.size (fun _ => True) (.slice A n c) (jb s.ch t a q n) ∧ Below w.heap.size w w' := by
  have hu162 := Tryz.underlying162
  have hu158 := Tryz.underlying158
  have hu78 := Tryz.underlying78
  have hu35 := Tryz.underlying35
  have hb0 : Below w.heap.size w ((w.alloc (.cells #[.int .u64 q, .slice A1 n1 c1, .slice A2 0 c2] 162)).alloc (.cells #[.int .i64 t, .int .i64 a, .int .i64 b] 78)) := ((Below.refl _ _).alloc (Nat.le_refl _) _).alloc (by simp) _
  have B0 := hQ hb0
  have X0 := hQ (zg (zi w (.cells #[.int .u64 q, .slice A1 n1 c1, .slice A2 0 c2] 162 (0, 0))) (.cells #[.int .i64 t, .int .i64 a, .int .i64 b] 78 (0, 0)))
  have Y0 := hQ (zi (w.alloc (.cells #[.int .u64 q, .slice A1 n1 c1, .slice A2 0 c2] 162 (0, 0))) (.cells #[.int .i64 t, .int .i64 a, .int .i64 b] 78 (0, 0)))
  rw [show (w.alloc (.cells #[.int .u64 q, .slice A1 n1 c1, .slice A2 0 c2] 162 (0, 0))).heap.size = w.heap.size + 1 by simp] at Y0
  have HH := hQ h
  have HS := hQ hs
  have HT := hQ ht
  have HA := hQ ha
  have HN := hQ hn
  clear hb0 h hs ht ha hn
  go_enter Tryz.func214, Tryz.ntmps214
  go_wp2_with (fail)
  go_loopg [7, 8] n (fun g_ v7 v8 wx => ∃ (j : Int) (A : Option Addr) (c : Nat), 0 ≤ j ∧ j + (g_ : Int) = (n : Int) ∧ v8 = .int .i64 (a + j) ∧ v7 = .slice A j.toNat c ∧ zf (Kd.R (Kd.int .u16) 33 wx w.heap.size (fun _ => True) (.slice A j.toNat c) (jb s.ch t a q j.toNat)) ∧ zf (wx.heap[w.heap.size]? = some (.cells #[.int .u64 q, .slice A1 n1 c1, .slice A2 0 c2] 162 (0, 0))) ∧ zf (wx.heap[w.heap.size + 1]? = some (.cells #[.int .i64 t, .int .i64 a, .int .i64 b] 78 (0, 0))) ∧ zf (Below w.heap.size w wx))
  case atStart => exact ⟨0, none, 0, by omega, by omega, by simp, rfl, ⟨by show Kd.R _ _ _ _ _ (.slice none 0 0) []; exact Kd.xM _ _ _ _ _⟩, ⟨X0.out⟩, ⟨Y0.out⟩, ⟨B0.out⟩⟩
  case round =>
    obtain ⟨j, A, c, hj0, hj, rfl, rfl, HR, HX, HY, HB⟩ := hrel
    have y1 : wr.cell? ⟨w.heap.size + 1, 2, none⟩ = some (.int .i64 b) := za HY.out 2
    have y0 : wr.cell? ⟨w.heap.size + 1, 0, none⟩ = some (.int .i64 t) := za HY.out 0
    cases gk with
    | zero =>
      have hd : decide (a + j < b) = false := decide_eq_false (by have := HN.out; omega)
      have hjn : j.toNat = n := by omega
      have HE := HR.out
      rw [hjn] at HE ⊢
      have HF := hQ HE
      clear HE hjn
      go_wp2
      go_ret
      exact ⟨A, c, rfl, HF.out, HB.out⟩
    | succ g1 =>
      have hd : decide (a + j < b) = true := decide_eq_true (by have := HN.out; omega)
      obtain ⟨v, hv⟩ : ∃ v, v = Wj (s.ch (t, a + j)) q := ⟨_, rfl⟩
      have HV := hQ hv
      have HJ := hQ (show 0 ≤ j ∧ j + ((g1 + 1 : Nat) : Int) = (n : Int) from ⟨hj0, hj⟩)
      have hb1 : Below wr.heap.size wr (wr.alloc (.cells #[.int .i64 t, .int .i64 (a + j)] 158)) := (Below.refl _ _).alloc (Nat.le_refl _) _
      have B1 := hQ (ze HB.out HB.out.size hb1)
      have X1 := hQ (zb HX.out hb1)
      have Y1 := hQ (zb HY.out hb1)
      have Z1 := hQ (zi wr (.cells #[.int .i64 t, .int .i64 (a + j)] 158 (0, 0)))
      have R1 := hQ (Kd.zy HR.out hb1)
      have x2 : (wr.alloc (.cells #[.int .i64 t, .int .i64 (a + j)] 158)).cell? ⟨w.heap.size, 2, none⟩ = some (.slice A2 0 c2) := za X1.out 2
      clear hb1 hv hj0 hj
      go_wp2_with (fail)
      refine (zbt _ A2 c2 t (a + j)).mono ?_
      rintro e w2 ⟨rfl, hb⟩
      have B2 := hQ (ze B1.out B1.out.size hb)
      have X2 := hQ (zb X1.out hb)
      have Y2 := hQ (zb Y1.out hb)
      have Z2 := hQ (zb Z1.out hb)
      have R2 := hQ (Kd.zy R1.out hb)
      have S2 := hQ (HH.out.below B2.out)
      have x0 : w2.cell? ⟨w.heap.size, 0, none⟩ = some (.int .u64 q) := za X2.out 0
      have z0 : w2.cell? ⟨wr.heap.size, 0, none⟩ = some (.int .i64 t) := za Z2.out 0
      have z1 : w2.cell? ⟨wr.heap.size, 1, none⟩ = some (.int .i64 (a + j)) := za Z2.out 1
      clear hb x2
      go_wp2_with (fail)
      refine (KP w2 B N st mst s S2.out HS.out t (a + j) q ⟨WalkArith.wf_i64 (by have := HT.out; omega), WalkArith.wf_i64 (by have := HA.out; have := HJ.out; have := HN.out; omega)⟩).mono ?_
      rintro e w3 ⟨rfl, hb⟩
      rw [← HV.out]
      have B3 := hQ (ze B2.out B2.out.size hb)
      have X3 := hQ (zb X2.out hb)
      have Y3 := hQ (zb Y2.out hb)
      have R3 := hQ (Kd.zy R2.out hb)
      clear hb x0 z0 z1
      go_wp2_with (first | ((with_reducible refine zZ (b := .append) (xs := #[.tmp 38, .tmp 40]) rfl ?_); at_builtin; go_must (refine Kd.kE (Kd.int .u16) (w0 := w) w.heap.size rfl (.tmp 38) (.tmp 40) 35 33 (.int .u16 0) 2 rfl Tryz.underlying35 Vk rfl (by decide) (by omega) (.slice A j.toNat c) (jb s.ch t a q j.toNat) v [.int .u16 v] (fun _ => True) (fun _ => False) rfl rfl ?aP (fun _ hk => hk.elim) (fun _ _ => trivial) ?aO ?aB ?aS ?aL ?_; (case aP => rfl); (case aO => exact R3.out); (case aB => exact B3.out); (case aS => exact B3.out.size); (case aL => rw [XI]; have := HJ.out; have := HN.out; have := HA.out; omega); intro v7 w4 ho hb hg hat; have hlen : (jb s.ch t a q j.toNat ++ [v]).length = (j + 1).toNat := (by rw [List.length_append, XI]; have := HJ.out; simp; omega); obtain ⟨A4, c4, e4⟩ := Kd.zX ho; rw [hlen] at e4; subst e4; have R4 := hQ ho; have B4 := hQ hb; have X4 := hQ ((hg.block _ (zF X3.out) (Kd.QH R3.out X3.out (by decide))).trans X3.out); have Y4 := hQ ((hg.block _ (zF Y3.out) (Kd.QH R3.out Y3.out (by decide))).trans Y3.out); clear ho hb hg hat hlen)))
      go_roundg g1
      case measure => have := HJ.out; omega
      case rel =>
        have hj := HJ.out
        have hn := HN.out
        have ha := HA.out
        have e1 : jb s.ch t a q (j + 1).toNat = jb s.ch t a q j.toNat ++ [v] := by
          rw [show (j + 1).toNat = j.toNat + 1 by omega, Ku, Int.toNat_of_nonneg hj.1, HV.out]
        refine ⟨j + 1, A4, c4, by omega, by omega, ?_, rfl, ⟨by rw [e1]; exact R4.out⟩, ⟨X4.out⟩, ⟨Y4.out⟩, ⟨B4.out⟩⟩
        first | rfl | (rw [show wrap64 (a + j + 1) = a + (j + 1) from by unfold wrap64; omega]) | (congr 1; omega)
end Go.Proofs.YtlalbohhopmpdaaGreat.Top
namespace Go.Proofs.YtlalbohhopmpdaaGreat.PTop
open Go.RowKit Go.YW.PrintWords Go.YW.PrintLast Go.YW.PrintMore
attribute [local go_sem] yU yT xE xC xe yZ xJ xK zm zu   -- for this text's walks alone
def qQ.f (a0_0 : Int) (a0_1 : Int) (a0_2 : Int) : Option (Bool) := if a0_0 ≥ 0 then (if a0_0 < 4 then (if a0_1 ≥ 0 then (if a0_2 ≤ 65536 then (some (decide (a0_1 < a0_2))) else (some false)) else (some false)) else (some false)) else (some false)
theorem qQ.calls (a0_0 : Int) (a0_1 : Int) (a0_2 : Int) (r : Bool) (w : World) (h : qQ.f a0_0 a0_1 a0_2 = some r) :
  Calls Tryz.prog 113 #[.agg #[.int .i64 a0_0, .int .i64 a0_1, .int .i64 a0_2]] w fun e w' => e = .returned (.bool r) ∧ Below w.heap.size w w' := by
 have hu78 := Tryz.underlying78
 have HB := zf.mk (Below.refl w.heap.size w)
 have H : (if a0_0 ≥ 0 then (if a0_0 < 4 then (if a0_1 ≥ 0 then (if a0_2 ≤ 65536 then (some (decide (a0_1 < a0_2))) else (some false)) else (some false)) else (some false)) else (some false)) = some r := h
 clear h
 by_cases c2 : a0_0 ≥ 0
 ·
  rw [if_pos c2] at H
  have c2b0 : decide (0 ≤ a0_0) = true := dT c2
  clear c2
  by_cases c3 : a0_0 < 4
  ·
   rw [if_pos c3] at H
   have c3b0 : decide (a0_0 < 4) = true := dT c3
   clear c3
   by_cases c4 : a0_1 ≥ 0
   ·
    rw [if_pos c4] at H
    have c4b0 : decide (0 ≤ a0_1) = true := dT c4
    clear c4
    by_cases c5 : a0_2 ≤ 65536
    ·
     rw [if_pos c5] at H
     have c5b0 : decide (a0_2 ≤ 65536) = true := dT c5
     clear c5
     obtain rfl := Option.some.inj H
     go_enter Tryz.func113, Tryz.ntmps113
     go_wp2_with (first | ((with_reducible refine zS (N := 1) rfl ?_); refine yt ?hg (N := 1) ?hd (cs := #[.int .i64 a0_0, .int .i64 a0_1, .int .i64 a0_2]) (t := 78) ?hr ?_; (case hd => rfl); (case hg => rfl); (case hr => first | (go_simp; done) | (go_simp; rfl)); intro gb101 hg w6 hbox hb; have BK101 := zf.mk (hbox); have GW101 := zf.mk ((by rw [hg]; exact (zq (HB.out)) : w.heap.size ≤ gb101)); have GE101 := zf.mk ((by rw [hg]; exact (zq (HB.out)) : w.heap.size ≤ gb101)); replace HB := zf.mk (zH (HB.out) hb); clear hb hbox hg; obtain ⟨hcz7_0, hcz7_1, hcz7_2⟩ := zV BK101.out; obtain ⟨hfz7_0, hfz7_1, hfz7_2⟩ := xq BK101.out))
     go_ret
     exact ⟨by first | rfl | (simp [zD, zC] <;> rfl) | (simp [*, zD, zC] <;> rfl), HB.out⟩
    ·
     rw [if_neg c5] at H
     have c5b0 : decide (a0_2 ≤ 65536) = false := dF c5
     clear c5
     obtain rfl := Option.some.inj H
     go_enter Tryz.func113, Tryz.ntmps113
     go_wp2_with (first | ((with_reducible refine zS (N := 1) rfl ?_); refine yt ?hg (N := 1) ?hd (cs := #[.int .i64 a0_0, .int .i64 a0_1, .int .i64 a0_2]) (t := 78) ?hr ?_; (case hd => rfl); (case hg => rfl); (case hr => first | (go_simp; done) | (go_simp; rfl)); intro gb101 hg w8 hbox hb; have BK101 := zf.mk (hbox); have GW101 := zf.mk ((by rw [hg]; exact (zq (HB.out)) : w.heap.size ≤ gb101)); have GE101 := zf.mk ((by rw [hg]; exact (zq (HB.out)) : w.heap.size ≤ gb101)); replace HB := zf.mk (zH (HB.out) hb); clear hb hbox hg; obtain ⟨hcz9_0, hcz9_1, hcz9_2⟩ := zV BK101.out; obtain ⟨hfz9_0, hfz9_1, hfz9_2⟩ := xq BK101.out))
     go_ret
     exact ⟨by first | rfl | (simp [zD, zC] <;> rfl) | (simp [*, zD, zC] <;> rfl), HB.out⟩
   ·
    rw [if_neg c4] at H
    have c4b0 : decide (0 ≤ a0_1) = false := dF c4
    clear c4
    obtain rfl := Option.some.inj H
    go_enter Tryz.func113, Tryz.ntmps113
    go_wp2_with (first | ((with_reducible refine zS (N := 1) rfl ?_); refine yt ?hg (N := 1) ?hd (cs := #[.int .i64 a0_0, .int .i64 a0_1, .int .i64 a0_2]) (t := 78) ?hr ?_; (case hd => rfl); (case hg => rfl); (case hr => first | (go_simp; done) | (go_simp; rfl)); intro gb101 hg w10 hbox hb; have BK101 := zf.mk (hbox); have GW101 := zf.mk ((by rw [hg]; exact (zq (HB.out)) : w.heap.size ≤ gb101)); have GE101 := zf.mk ((by rw [hg]; exact (zq (HB.out)) : w.heap.size ≤ gb101)); replace HB := zf.mk (zH (HB.out) hb); clear hb hbox hg; obtain ⟨hcz11_0, hcz11_1, hcz11_2⟩ := zV BK101.out; obtain ⟨hfz11_0, hfz11_1, hfz11_2⟩ := xq BK101.out))
    go_ret
    exact ⟨by first | rfl | (simp [zD, zC] <;> rfl) | (simp [*, zD, zC] <;> rfl), HB.out⟩
  ·
   rw [if_neg c3] at H
   have c3b0 : decide (a0_0 < 4) = false := dF c3
   clear c3
   obtain rfl := Option.some.inj H
   go_enter Tryz.func113, Tryz.ntmps113
   go_wp2_with (first | ((with_reducible refine zS (N := 1) rfl ?_); refine yt ?hg (N := 1) ?hd (cs := #[.int .i64 a0_0, .int .i64 a0_1, .int .i64 a0_2]) (t := 78) ?hr ?_; (case hd => rfl); (case hg => rfl); (case hr => first | (go_simp; done) | (go_simp; rfl)); intro gb101 hg w12 hbox hb; have BK101 := zf.mk (hbox); have GW101 := zf.mk ((by rw [hg]; exact (zq (HB.out)) : w.heap.size ≤ gb101)); have GE101 := zf.mk ((by rw [hg]; exact (zq (HB.out)) : w.heap.size ≤ gb101)); replace HB := zf.mk (zH (HB.out) hb); clear hb hbox hg; obtain ⟨hcz13_0, hcz13_1, hcz13_2⟩ := zV BK101.out; obtain ⟨hfz13_0, hfz13_1, hfz13_2⟩ := xq BK101.out))
   go_ret
   exact ⟨by first | rfl | (simp [zD, zC] <;> rfl) | (simp [*, zD, zC] <;> rfl), HB.out⟩
 ·
  rw [if_neg c2] at H
  have c2b0 : decide (0 ≤ a0_0) = false := dF c2
  clear c2
  obtain rfl := Option.some.inj H
  go_enter Tryz.func113, Tryz.ntmps113
  go_wp2_with (first | ((with_reducible refine zS (N := 1) rfl ?_); refine yt ?hg (N := 1) ?hd (cs := #[.int .i64 a0_0, .int .i64 a0_1, .int .i64 a0_2]) (t := 78) ?hr ?_; (case hd => rfl); (case hg => rfl); (case hr => first | (go_simp; done) | (go_simp; rfl)); intro gb101 hg w14 hbox hb; have BK101 := zf.mk (hbox); have GW101 := zf.mk ((by rw [hg]; exact (zq (HB.out)) : w.heap.size ≤ gb101)); have GE101 := zf.mk ((by rw [hg]; exact (zq (HB.out)) : w.heap.size ≤ gb101)); replace HB := zf.mk (zH (HB.out) hb); clear hb hbox hg; obtain ⟨hcz15_0, hcz15_1, hcz15_2⟩ := zV BK101.out; obtain ⟨hfz15_0, hfz15_1, hfz15_2⟩ := xq BK101.out))
  go_ret
  exact ⟨by first | rfl | (simp [zD, zC] <;> rfl) | (simp [*, zD, zC] <;> rfl), HB.out⟩
end Go.Proofs.YtlalbohhopmpdaaGreat.PTop
namespace Go.Proofs.YtlalbohhopmpdaaGreat.Top
open Go.RowKit Go.Proofs.YtlalbohhopmpdaaGreat.PTop Go.YW.PrintWords Go.YW.PrintLast Go.YW.PrintMore Go.Proofs.YtlalbohhopmpdaaGreat.Num
attribute [local go_sem] zm zu
theorem zaZ (w : World) (A : Option Addr) (c : Nat) (t a b : Int) (hab : a < b) :
    Calls Tryz.prog 242 #[.slice A 0 c, .agg #[.int .i64 t, .int .i64 a, .int .i64 b]] w fun e w' => ∃ A' c', e = .returned (.slice A' 1 c') ∧ Kd.R k78 78 w' w.heap.size (fun _ => True) (.slice A' 1 c') [⟨t, a, b⟩] ∧ Below w.heap.size w w' := by
  have hu155 := Tryz.underlying155
  have hu158 := Tryz.underlying158
  have hu78 := Tryz.underlying78
  have hb0 : Below w.heap.size w (w.alloc (.cells #[.int .i64 t, .int .i64 a, .int .i64 b] 78)) := (Below.refl _ _).alloc (Nat.le_refl _) _
  have B0 := hQ hb0
  have X0 := hQ (zi w (.cells #[.int .i64 t, .int .i64 a, .int .i64 b] 78 (0, 0)))
  have HAB := hQ hab
  clear hb0 hab
  go_enter Tryz.func242, Tryz.ntmps242
  go_wp2_with (fail)
  refine (YS _ A c t a).mono ?_
  rintro e w1 ⟨rfl, hb⟩
  have B1 := hQ (ze B0.out B0.out.size hb)
  have X1 := hQ (zb X0.out hb)
  clear hb
  go_wp2_with (fail)
  go_loopg [5, 6, 7] 0 (fun g_ v5 v6 v7 wx => v5 = .slice none 0 0 ∧ v6 = .int .i64 a ∧ v7 = .int .i64 0 ∧ zf (wx.heap[w.heap.size]? = some (.cells #[.int .i64 t, .int .i64 a, .int .i64 b] 78 (0, 0))) ∧ zf (Below w.heap.size w wx))
  case atStart => exact ⟨rfl, rfl, rfl, ⟨X1.out⟩, ⟨B1.out⟩⟩
  case round =>
    obtain ⟨rfl, rfl, rfl, HX, HB⟩ := hrel
    have y0 : wr.cell? ⟨w.heap.size, 0, none⟩ = some (.int .i64 t) := za HX.out 0
    have y1 : wr.cell? ⟨w.heap.size, 1, none⟩ = some (.int .i64 a) := za HX.out 1
    have y2 : wr.cell? ⟨w.heap.size, 2, none⟩ = some (.int .i64 b) := za HX.out 2
    have hd : decide (a < b) = true := dT HAB.out
    go_wp2_with (fail)
    go_region
    have HB2 := hQ (HB.out.trans (zk (Below.refl _ _)))
    have u0 : wr.drew.cell? ⟨w.heap.size, 0, none⟩ = some (.int .i64 t) := y0
    have u1 : wr.drew.cell? ⟨w.heap.size, 1, none⟩ = some (.int .i64 a) := y1
    have u2 : wr.drew.cell? ⟨w.heap.size, 2, none⟩ = some (.int .i64 b) := y2
    clear y0 y1 y2 HX HB
    generalize wr.drew = W6 at *
    go_wp2_with (first | ((with_reducible refine zZ (b := .append) (xs := #[.tmp 73, .tmp 80]) rfl ?_); at_builtin; go_must (refine Kd.kE k78 (w0 := w) w.heap.size rfl (.tmp 73) (.tmp 80) 25 78 (.agg #[(.int .i64 0), (.int .i64 0), (.int .i64 0)]) 24 rfl Tryz.underlying25 qN rfl (by decide) (by omega) (.slice none 0 0) ([] : List S78) (⟨t, a, b⟩ : S78) [.int .i64 t, .int .i64 a, .int .i64 b] (fun _ => True) (fun _ => False) rfl rfl ?aP (fun _ hk => hk.elim) (fun _ _ => trivial) ?aO ?aB ?aS ?aL ?_; (case aP => exact qC _ _ _ (⟨t, a, b⟩ : S78)); (case aO => exact Kd.xM _ _ _ _ _); (case aB => exact HB2.out); (case aS => exact HB2.out.size); (case aL => simp); intro v1 w4 ho hb hg hat; rw [List.nil_append] at ho; obtain ⟨A4, c4, e4⟩ := Kd.zX ho; subst e4; have R4 := hQ ho; have B4 := hQ hb; clear ho hb hg hat)))
    go_ret
    exact ⟨A4, c4, rfl, R4.out, B4.out⟩
theorem Jy (A : Option Addr) (f n c : Nat) (h : f ≤ c) (W : World) : (Instr.sliceAt 155 (.slice A n c) none (some (.int .i64 f)) none).run Tryz.prog W = .ok (.slice A f c) W := by
  have h1 : ¬ ((f : Int) < 0) := by omega
  cases A <;> simp [Instr.sliceAt, Instr.sliceBounds, go_sem, Tryz.underlying155, h]
theorem Wl (ty : TypeId) (A1 A : Option Addr) (m1 c1 c : Nat) (W : World) : (Builtin.copy_ #[155, 155] ty #[.slice A1 m1 c1, .slice A 0 c]).run Tryz.prog W = .ok (.int .i64 0) W := by
  obtain ⟨i, hi, _⟩ := Option.map_eq_some_iff.1 Yv
  cases A1 <;> cases A <;> simp [Builtin.copy_, run_underlying Tryz.underlying155, Builtin.lenOf, Builtin.firstCells, sizeOf, typeInfo, storeCells, goInt, hi, loadCells, loadCellsFrom]
theorem Xj (A : Option Addr) (f n c : Nat) (h : f ≤ n) (hc : n ≤ c) : ∃ A1 : Option Addr, ∀ (W : World), (Instr.sliceAt 155 (.slice A n c) (some (.int .i64 f)) none none).run Tryz.prog W = .ok (.slice A1 (n - f) (c - f)) W := by
  obtain ⟨i, hi, hz⟩ := Option.map_eq_some_iff.1 Yv
  refine ⟨if c = f then A else A.map (·.add (f * i.size)), fun W => ?_⟩
  have hu := Tryz.underlying155
  by_cases e : c = f
  · cases A <;> simp [Instr.sliceAt, Instr.slice, Instr.sliceBounds, Instr.sliceBound, go_sem, h, e, hi, sizeOf, typeInfo]
  · cases A <;> simp [Instr.sliceAt, Instr.slice, Instr.sliceBounds, Instr.sliceBound, go_sem, h, e, hi, sizeOf, typeInfo]
theorem zbG {W : World} {b g n cap : Nat} {l : List xz} (h : Kd.R qp 208 W b (fun _ => True) (.slice (some ⟨g, 0, none⟩) n cap) l) (i : Int) (h0 : 0 ≤ i) (h1 : i < n) (x : xz) :
    (∃ o0 o1 o2, W.cell? ⟨g, i.toNat * 3, none⟩ = some o0 ∧ W.cell? ⟨g, i.toNat * 3 + 1, none⟩ = some o1 ∧ W.cell? ⟨g, i.toNat * 3 + 2, none⟩ = some o2) ∧ (∀ j, W.frozen? ⟨g, i.toNat * 3 + j, none⟩ = false) ∧
    Kd.R qp 208 (((W.setCell ⟨g, i.toNat * 3, none⟩ (.int .i64 x.f0.f0)).setCell ⟨g, i.toNat * 3 + 1, none⟩ (.int .i64 x.f0.f1)).setCell ⟨g, i.toNat * 3 + 2, none⟩ (.int .u16 x.f1)) b (fun _ => True) (.slice (some ⟨g, 0, none⟩) n cap) (l.set i.toNat x) := by
  obtain ⟨c, hcl, hM, hcc, hz⟩ := Kd.Qm h z208 i h0 h1
  have hc := Zw hM
  subst hc
  obtain ⟨h2, _⟩ := Kd.zaU (okp := fun _ => False) h i h0 h1 (c := [.int .i64 (l.getD i.toNat z208).f0.f0, .int .i64 (l.getD i.toNat z208).f0.f1, .int .u16 (l.getD i.toNat z208).f1]) (seg := [.int .i64 x.f0.f0, .int .i64 x.f0.f1, .int .u16 x.f1]) (j := 0) hcl hcc (show 0 + 3 ≤ 3 by omega) (x' := x) (vg _ _ _ _) (fun _ h => h.elim)
  exact ⟨⟨_, _, _, hcc 0 _ rfl, hcc 1 _ rfl, hcc 2 _ rfl⟩, hz, h2⟩
/-- A cell is put into no cells. -/
theorem zbZ (w : World) (A : Option Addr) (c : Nat) (x : xz) :
    Calls Tryz.prog 249 #[.slice A 0 c, .agg #[.int .i64 x.f0.f0, .int .i64 x.f0.f1, .int .u16 x.f1]] w fun e w' => ∃ A' c', e = .returned (.slice A' 1 c') ∧ Kd.R qp 208 w' w.heap.size (fun _ => True) (.slice A' 1 c') [x] ∧ Below w.heap.size w w' := by
  have hu155 := Tryz.underlying155
  have hu158 := Tryz.underlying158
  have hu208 := Tryz.underlying208
  have hb0 : Below w.heap.size w (w.alloc (.cells #[.int .i64 x.f0.f0, .int .i64 x.f0.f1, .int .u16 x.f1] 208)) := (Below.refl _ _).alloc (Nat.le_refl _) _
  have B0 := hQ hb0
  have X0 := hQ (zi w (.cells #[.int .i64 x.f0.f0, .int .i64 x.f0.f1, .int .u16 x.f1] 208 (0, 0)))
  clear hb0
  go_enter Tryz.func249, Tryz.ntmps249
  go_wp2_with (fail)
  refine (YS _ A c x.f0.f0 x.f0.f1).mono ?_
  rintro e w1 ⟨rfl, hb⟩
  have B1 := hQ (ze B0.out B0.out.size hb)
  have X1 := hQ (zb X0.out hb)
  have x0 : w1.cell? ⟨w.heap.size, 0, none⟩ = some (.int .i64 x.f0.f0) := za X1.out 0
  have x1 : w1.cell? ⟨w.heap.size, 1, none⟩ = some (.int .i64 x.f0.f1) := za X1.out 1
  have x2 : w1.cell? ⟨w.heap.size, 2, none⟩ = some (.int .u16 x.f1) := za X1.out 2
  clear hb
  go_wp2_with (first | ((with_reducible refine zS (N := 27) rfl ?_); go_must (refine Kd.Qr qp (w0 := w) w.heap.size 208 rfl (N := 27) rfl 155 (.tmp 26) (.tmp 26) rfl 1 rfl rfl Tryz.underlying155 (.agg #[(.int .i64 0), (.int .i64 0), (.int .u16 0)]) 24 Yv rfl (by decide) (by omega) z208 (ok := fun _ => True) (okp := fun _ => False) (vg _ _ _ z208) (fun _ h => trivial) trivial (by decide) (by decide) B1.out B1.out.size ?_; intro v8 w5 ho hb hg hat; obtain ⟨g, cap, e8, hgb, hgl, _⟩ := Kd.xX ho (by decide); subst e8; have R5 := hQ ho; have B5 := hQ hb; have X5 := hQ ((hg.block _ (zF X1.out) (by simp)).trans X1.out); have HGB := hQ hgb; have v0 : w5.cell? ⟨w.heap.size, 0, none⟩ = some (.int .i64 x.f0.f0) := za X5.out 0; have v1 : w5.cell? ⟨w.heap.size, 1, none⟩ = some (.int .i64 x.f0.f1) := za X5.out 1; have v2 : w5.cell? ⟨w.heap.size, 2, none⟩ = some (.int .u16 x.f1) := za X5.out 2; obtain ⟨⟨o0, o1, o2, ho0, ho1, ho2⟩, hfz, hR6⟩ := zbG R5.out 0 (by decide) (by simp) x; have p0 : w5.cell? ⟨g, 0, none⟩ = some o0 := ho0; have p1 : w5.cell? ⟨g, 1, none⟩ = some o1 := ho1; have p2 : w5.cell? ⟨g, 2, none⟩ = some o2 := ho2; have z0 : w5.frozen? ⟨g, 0, none⟩ = false := hfz 0; have z1 : w5.frozen? ⟨g, 1, none⟩ = false := hfz 1; have z2 : w5.frozen? ⟨g, 2, none⟩ = false := hfz 2; have R6 := hQ (show Kd.R qp 208 (((w5.setCell ⟨g, 0, none⟩ (.int .i64 x.f0.f0)).setCell ⟨g, 1, none⟩ (.int .i64 x.f0.f1)).setCell ⟨g, 2, none⟩ (.int .u16 x.f1)) w.heap.size (fun _ => True) (.slice (some ⟨g, 0, none⟩) 1 cap) [x] from hR6); have hcz := fun ty A1 m1 c1 A c W => Wl ty A1 A m1 c1 c W; have hch := Jy A 0 0 c (Nat.zero_le _); obtain ⟨A3, hcl⟩ := Xj (some ⟨g, 0, none⟩) 1 1 cap (Nat.le_refl _) (by have := (Kd.zw R5.out).2.1; simpa using this); obtain ⟨A4, hcl2⟩ := Xj A 0 0 c (Nat.le_refl _) (Nat.zero_le _); have hq : (Lit.int .i64 1).wf = true := rfl; clear ho hb hg hat ho0 ho1 ho2 hfz hR6 hgb hgl x0 x1 x2)))
  go_region
  go_wp2
  all_goals
    go_ret
    have h6 := R6.out
    first
      | exact ⟨_, _, rfl, Kd.zy h6 (zk (Below.refl _ _)), (((B5.out.setCell HGB.out _).setCell HGB.out _).setCell HGB.out _).trans (zk (Below.refl _ _))⟩
      | (have hcap : cap = 1 := (by first | assumption | (symm; assumption) | omega); rw [hcap] at h6; exact ⟨_, _, rfl, Kd.zy h6 (zk (Below.refl _ _)), (((B5.out.setCell HGB.out _).setCell HGB.out _).setCell HGB.out _).trans (zk (Below.refl _ _))⟩)
theorem YX (A : Option Addr) (f n c : Nat) (h : f ≤ n) (hc : n ≤ c) : ∃ A1 : Option Addr, ∀ (W : World), (Instr.sliceAt 25 (.slice A n c) (some (.int .i64 f)) none none).run Tryz.prog W = .ok (.slice A1 (n - f) (c - f)) W := by
  obtain ⟨i, hi, hz⟩ := Option.map_eq_some_iff.1 qN
  refine ⟨if c = f then A else A.map (·.add (f * i.size)), fun W => ?_⟩
  have hu := Tryz.underlying25
  by_cases e : c = f
  · cases A <;> simp [Instr.sliceAt, Instr.slice, Instr.sliceBounds, Instr.sliceBound, go_sem, h, e, hi, sizeOf, typeInfo]
  · cases A <;> simp [Instr.sliceAt, Instr.slice, Instr.sliceBounds, Instr.sliceBound, go_sem, h, e, hi, sizeOf, typeInfo]
theorem zcq {W : World} {b g n cap : Nat} {l : List S78} (h : Kd.R k78 78 W b (fun _ => True) (.slice (some ⟨g, 0, none⟩) n cap) l) (i : Int) (h0 : 0 ≤ i) (h1 : i < n) (x : S78) :
    (∃ o0 o1 o2, W.cell? ⟨g, i.toNat * 3, none⟩ = some o0 ∧ W.cell? ⟨g, i.toNat * 3 + 1, none⟩ = some o1 ∧ W.cell? ⟨g, i.toNat * 3 + 2, none⟩ = some o2) ∧ (∀ j, W.frozen? ⟨g, i.toNat * 3 + j, none⟩ = false) ∧
    Kd.R k78 78 (((W.setCell ⟨g, i.toNat * 3, none⟩ (.int .i64 x.f0)).setCell ⟨g, i.toNat * 3 + 1, none⟩ (.int .i64 x.f1)).setCell ⟨g, i.toNat * 3 + 2, none⟩ (.int .i64 x.f2)) b (fun _ => True) (.slice (some ⟨g, 0, none⟩) n cap) (l.set i.toNat x) := by
  obtain ⟨c, hcl, hM, hcc, hz⟩ := Kd.Qm h z78 i h0 h1
  have hc := VV hM
  subst hc
  obtain ⟨h2, _⟩ := Kd.zaU (okp := fun _ => False) h i h0 h1 (c := [.int .i64 (l.getD i.toNat z78).f0, .int .i64 (l.getD i.toNat z78).f1, .int .i64 (l.getD i.toNat z78).f2]) (seg := [.int .i64 x.f0, .int .i64 x.f1, .int .i64 x.f2]) (j := 0) hcl hcc (show 0 + 3 ≤ 3 by omega) (x' := x) (qC _ _ _ _) (fun _ h => h.elim)
  exact ⟨⟨_, _, _, hcc 0 _ rfl, hcc 1 _ rfl, hcc 2 _ rfl⟩, hz, h2⟩
theorem QN (ty : TypeId) (A1 A : Option Addr) (m c1 c : Nat) (W : World) : (Builtin.copy_ #[25, 25] ty #[.slice A1 0 c1, .slice A m c]).run Tryz.prog W = .ok (.int .i64 0) W := by
  obtain ⟨i, hi, hz⟩ := Option.map_eq_some_iff.1 qN
  cases A1 <;> cases A <;> simp [Builtin.copy_, run_underlying Tryz.underlying25, Builtin.lenOf, Builtin.firstCells, sizeOf, typeInfo, storeCells, goInt, hi, loadCells, loadCellsFrom]
theorem Wz (w : World) (A : Option Addr) (c : Nat) (t a b : Int) :
    Calls Tryz.prog 243 #[.slice A 0 c, .agg #[.int .i64 t, .int .i64 a, .int .i64 b]] w fun e w' => ∃ A' c', e = .returned (.slice A' 1 c') ∧ Kd.R k78 78 w' w.heap.size (fun _ => True) (.slice A' 1 c') [⟨t, a, b⟩] ∧ Below w.heap.size w w' := by
  have hu78 := Tryz.underlying78
  have hu25 := Tryz.underlying25
  have hb0 : Below w.heap.size w (w.alloc (.cells #[.int .i64 t, .int .i64 a, .int .i64 b] 78)) := (Below.refl _ _).alloc (Nat.le_refl _) _
  have B0 := hQ hb0
  have X0 := hQ (zi w (.cells #[.int .i64 t, .int .i64 a, .int .i64 b] 78 (0, 0)))
  clear hb0
  go_enter Tryz.func243, Tryz.ntmps243
  go_wp2_with (first | ((with_reducible refine zS (N := 12) rfl ?_); go_must (refine Kd.Vn k78 (w0 := w) w.heap.size 78 rfl (N := 12) rfl 25 _ _ rfl 1 rfl rfl Tryz.underlying25 (.agg #[(.int .i64 0), (.int .i64 0), (.int .i64 0)]) 24 qN rfl (by decide) (by omega) z78 (ok := fun _ => True) (okp := fun _ => False) (qC _ _ _ z78) (fun _ h => h.elim) trivial (by decide) (by decide) B0.out B0.out.size ?_; intro v2 w2 ho hb hg hat; have R2 := hQ ho; have B2 := hQ hb; have X2 := hQ ((hg.block _ (zF X0.out) (by simp)).trans X0.out); have HA2 := hQ hat; clear ho hb hg hat; obtain ⟨A2, c2, e2⟩ := Kd.zX R2.out; have e3 : v2 = .slice A2 0 c2 := e2; clear e2; subst e3; have x0 : w2.cell? ⟨w.heap.size, 0, none⟩ = some (.int .i64 t) := za X2.out 0; have x1 : w2.cell? ⟨w.heap.size, 1, none⟩ = some (.int .i64 a) := za X2.out 1; have x2 : w2.cell? ⟨w.heap.size, 2, none⟩ = some (.int .i64 b) := za X2.out 2)))
  refine wp_loop_rounds 1 ?_
  rw [rounds_succ]
  go_wp2_with (first | ((with_reducible refine zZ (b := .append) (xs := #[.tmp 50, .tmp 52]) (ts := #[25, 25]) rfl ?_); go_must (refine Kd.kE k78 (w0 := w) w.heap.size rfl (.tmp 50) (.tmp 52) 25 78 (.agg #[(.int .i64 0), (.int .i64 0), (.int .i64 0)]) 24 rfl Tryz.underlying25 qN rfl (by decide) (by omega) _ [] (⟨t, a, b⟩ : S78) [.int .i64 t, .int .i64 a, .int .i64 b] (fun _ => True) (fun _ => False) rfl rfl (qC _ _ _ _) (fun _ hk => hk.elim) (fun _ _ => trivial) R2.out B2.out B2.out.size (by decide) ?_; intro v3 w3 ho hb hg hat; have R3 := hQ (show Kd.R k78 78 w3 w.heap.size (fun _ => True) v3 [⟨t, a, b⟩] from ho); have B3 := hQ hb; clear ho hb hat; obtain ⟨g3, c3, e3, hgb, hgl, _⟩ := Kd.xX R3.out (by simp); subst e3)))
  obtain ⟨A4, hcl⟩ := YX (some ⟨g3, 0, none⟩) 1 1 c3 (Nat.le_refl _) (by have := (Kd.zw R3.out).2.1; simpa using this)
  obtain ⟨A5, hcl2⟩ := YX (some ⟨g3, 0, none⟩) 0 1 c3 (by decide) (by have := (Kd.zw R3.out).2.1; simpa using this)
  have hcz := fun ty A1 A m c1 c W => QN ty A1 A m c1 c W
  have hb3 : Below w3.heap.size w3 w3.drew := zk (Below.refl _ _)
  have hX3 : w3.heap[w.heap.size]? = some (.cells #[.int .i64 t, .int .i64 a, .int .i64 b] 78 (0, 0)) := (hg.block _ (zF X2.out) (by
    intro e0
    have e : some w.heap.size = (Value.slice A2 0 c2).ownBlock := e0
    obtain ⟨b1, h1, h2⟩ := HA2.out
    rw [h1] at e
    injection e with e
    have h3 : (w.alloc (.cells #[.int .i64 t, .int .i64 a, .int .i64 b] 78)).heap.size = w.heap.size + 1 := by simp
    omega)).trans X2.out
  obtain ⟨⟨o0, o1, o2, ho0, ho1, ho2⟩, hfz, hR6⟩ := zcq R3.out 0 (by decide) (by simp) ⟨t, a, b⟩
  have R6 := hQ hR6
  have B6 := hQ (ze B3.out B3.out.size hb3)
  have HGB := hQ hgb
  have X6 := hX3
  have q0 : w3.cell? ⟨g3, 0, none⟩ = some o0 := ho0
  have q1 : w3.cell? ⟨g3, 1, none⟩ = some o1 := ho1
  have q2 : w3.cell? ⟨g3, 2, none⟩ = some o2 := ho2
  have z0 : w3.frozen? ⟨g3, 0, none⟩ = false := hfz 0
  have z1 : w3.frozen? ⟨g3, 1, none⟩ = false := hfz 1
  have z2 : w3.frozen? ⟨g3, 2, none⟩ = false := hfz 2
  have y0 : w3.cell? ⟨w.heap.size, 0, none⟩ = some (.int .i64 t) := za X6 0
  have y1 : w3.cell? ⟨w.heap.size, 1, none⟩ = some (.int .i64 a) := za X6 1
  have y2 : w3.cell? ⟨w.heap.size, 2, none⟩ = some (.int .i64 b) := za X6 2
  clear hg hfz ho0 ho1 ho2 hX3 X6 hR6 hb3
  go_region
  go_wp2
  all_goals
    go_ret
    have h6 : Kd.R k78 78 (((w3.setCell ⟨g3, 0, none⟩ (.int .i64 t)).setCell ⟨g3, 1, none⟩ (.int .i64 a)).setCell ⟨g3, 2, none⟩ (.int .i64 b)) w.heap.size (fun _ => True) (.slice (some ⟨g3, 0, none⟩) 1 c3) [⟨t, a, b⟩] := R6.out
    first
      | exact ⟨_, _, rfl, Kd.zy h6 (zk (Below.refl _ _)), (((B3.out.setCell HGB.out _).setCell HGB.out _).setCell HGB.out _).trans (zk (Below.refl _ _))⟩
      | (have hcap : c3 = 1 := (by first | assumption | (symm; assumption) | omega); rw [hcap] at h6; exact ⟨_, _, rfl, Kd.zy h6 (zk (Below.refl _ _)), (((B3.out.setCell HGB.out _).setCell HGB.out _).setCell HGB.out _).trans (zk (Below.refl _ _))⟩)
end Go.Proofs.YtlalbohhopmpdaaGreat.Top
namespace Go.Proofs.YtlalbohhopmpdaaGreat.Top
open Go.RowKit Go.Proofs.YtlalbohhopmpdaaGreat.PTop Go.YW.PrintWords Go.YW.PrintLast Go.YW.PrintMore Go.Proofs.YtlalbohhopmpdaaGreat.Num
def ql : List S84 := [⟨0, ⟨#[98, 117, 115, 98, 97, 114]⟩⟩, ⟨1, ⟨#[98, 49]⟩⟩, ⟨2, ⟨#[49, 46, 48]⟩⟩]
end Go.Proofs.YtlalbohhopmpdaaGreat.Top
