/- Words and walks for TopBlind (made of the session's own texts; each part by itself). -/
import Derived.Deep.DeepCutAuto
import Derived.Deep.DeepMust
import Derived.Deep.RegionLaw
import Derived.Test.YtlalbohhopmpdaaGreatZTopBlind13
set_option maxRecDepth 100000
set_option maxHeartbeats 8000000
set_option linter.unusedVariables false
set_option linter.unusedSimpArgs false
namespace Go.Proofs.YtlalbohhopmpdaaGreat.PTop
open Go.RowKit Go.YW.PrintWords Go.YW.PrintLast Go.YW.PrintMore
attribute [local go_sem] yN yO xu xw yP yR xm xq zk zo   -- for this text's walks alone
mutual
def zZ.j0 : Nat → Int → Bool → Option (Int × Bool)
 | 0, _, _ => none
 | k + 1, x4, x5 => if x5 = true then (some (0, true)) else (if x4 = 2 then (some (1, true)) else (if x4 = 3 then (zZ.j1 k x4 (x4 == 3)) else (if x4 = 6 then (zZ.j1 k x4 (x4 == 6)) else (if x4 = 16 then (zZ.j1 k x4 (x4 == 16)) else (if x4 = 22 then (zZ.j1 k x4 (x4 == 22)) else (zZ.j1 k x4 (x4 == 23)))))))
def zZ.j1 : Nat → Int → Bool → Option (Int × Bool)
 | 0, _, _ => none
 | k + 1, x4, x11 => if x11 = true then (some (2, true)) else (if x4 = 4 then (some (3, true)) else (some (0, false)))
end
def zZ.f (k : Nat) (a0 : Int) : Option (Int × Bool) := if a0 = 1 then (zZ.j0 k a0 (a0 == 1)) else (if a0 = 5 then (zZ.j0 k a0 (a0 == 5)) else (zZ.j0 k a0 (a0 == 15)))
theorem zZ.calls (k : Nat) (a0 : Int) (r1 : Int) (r2 : Bool) (w : World) (h : zZ.f k a0 = some (r1, r2)) :
  Calls Tryz.prog 160 #[.int .i64 a0] w fun e w' => e = .returned (.tuple #[.int .i64 r1, .bool r2]) ∧ zw w w' := by
 have H : (if a0 = 1 then (zZ.j0 k a0 (a0 == 1)) else (if a0 = 5 then (zZ.j0 k a0 (a0 == 5)) else (zZ.j0 k a0 (a0 == 15)))) = some (r1, r2) := h
 clear h
 have HC2 := ze.mk H
 clear H
 go_enter Tryz.func160, Tryz.ntmps160
 go_upto_if 5 with (fail)
 go_cut [5] (fun v5 wc => ∃ (kq : Nat) (x5_1 : Bool), v5 = .bool x5_1 ∧ ze (zZ.j0 kq a0 x5_1 = some (r1, r2)) ∧ ze (kq ≤ k) ∧ zw w wc)
 case first =>
  have H := HC2.out
  clear HC2
  by_cases c3 : a0 = 1
  ·
   rw [if_pos c3] at H
   have c3b0 : (a0 == 1) = true := beq_iff_eq.mpr c3
   have c3b1 : (a0 != 1) = false := bne_eq_false_iff_eq.mpr c3
   clear c3
   (first | rw [c3b0] | (simp only [xy, xV]; rw [c3b0]) | skip)
   have H' := ze.mk H
   clear H
   go_wp2
   go_meet
   case rel => exact ⟨_, ((a0 == 1)), (by first | rfl | (simp; done) | (simp [*]; done)), H', ⟨by first | omega | exact Nat.le_refl _⟩, by repeat (first | exact zw.refl _ | apply zw.step)⟩
  ·
   rw [if_neg c3] at H
   have c3b0 : (a0 == 1) = false := beq_eq_false_iff_ne.mpr c3
   have c3b1 : (a0 != 1) = true := bne_iff_ne.mpr c3
   (first | rw [c3b0] | (simp only [xy, xV]; rw [c3b0]) | skip)
   by_cases c4 : a0 = 5
   ·
    rw [if_pos c4] at H
    have c4b0 : (a0 == 5) = true := beq_iff_eq.mpr c4
    have c4b1 : (a0 != 5) = false := bne_eq_false_iff_eq.mpr c4
    clear c4
    have H' := ze.mk H
    clear H
    go_wp2
    go_meet
    case rel => exact ⟨_, ((a0 == 5)), (by first | rfl | (simp; done) | (simp [*]; done)), H', ⟨by first | omega | exact Nat.le_refl _⟩, by repeat (first | exact zw.refl _ | apply zw.step)⟩
   ·
    rw [if_neg c4] at H
    have c4b0 : (a0 == 5) = false := beq_eq_false_iff_ne.mpr c4
    have c4b1 : (a0 != 5) = true := bne_iff_ne.mpr c4
    have H' := ze.mk H
    clear H
    go_wp2
    go_meet
    case rel => exact ⟨_, ((a0 == 15)), (by first | rfl | (simp; done) | (simp [*]; done)), H', ⟨by first | omega | exact Nat.le_refl _⟩, by repeat (first | exact zw.refl _ | apply zw.step)⟩
 case rest =>
  clear HC2
  obtain ⟨kq, x5_1, rfl, HA, HJ1, ⟨mc1, rfl⟩⟩ := hcut
  cases kq with
  | zero => exact absurd HA.out (by simp [zZ.j0])
  | succ kj1 =>
   have H := HA.out
   clear HA
   simp only [zZ.j0] at H
   by_cases c5 : x5_1 = true
   ·
    subst c5
    have H1 : (some (0, true)) = some (r1, r2) := by rw [if_pos rfl] at H; exact H
    clear H
    have H := H1
    clear H1
    simp only [Option.some.injEq, Prod.mk.injEq] at H
    obtain ⟨rfl, rfl⟩ := H
    go_wp2
    go_ret2
    exact ⟨by first | rfl | (simp; done) | (simp [*]; done), by repeat (first | exact zw.refl _ | apply zw.step)⟩
   ·
    replace c5 := Bool.eq_false_iff.mpr c5
    subst c5
    have H1 : (if a0 = 2 then (some (1, true)) else (if a0 = 3 then (zZ.j1 kj1 a0 (a0 == 3)) else (if a0 = 6 then (zZ.j1 kj1 a0 (a0 == 6)) else (if a0 = 16 then (zZ.j1 kj1 a0 (a0 == 16)) else (if a0 = 22 then (zZ.j1 kj1 a0 (a0 == 22)) else (zZ.j1 kj1 a0 (a0 == 23))))))) = some (r1, r2) := by rw [if_neg (show ¬ (false = true) by decide)] at H; exact H
    clear H
    have H := H1
    clear H1
    by_cases c6 : a0 = 2
    ·
     rw [if_pos c6] at H
     have c6b0 : (a0 == 2) = true := beq_iff_eq.mpr c6
     have c6b1 : (a0 != 2) = false := bne_eq_false_iff_eq.mpr c6
     clear c6
     simp only [Option.some.injEq, Prod.mk.injEq] at H
     obtain ⟨rfl, rfl⟩ := H
     go_wp2
     go_ret2
     exact ⟨by first | rfl | (simp; done) | (simp [*]; done), by repeat (first | exact zw.refl _ | apply zw.step)⟩
    ·
     rw [if_neg c6] at H
     have c6b0 : (a0 == 2) = false := beq_eq_false_iff_ne.mpr c6
     have c6b1 : (a0 != 2) = true := bne_iff_ne.mpr c6
     have HC7 := ze.mk H
     clear H
     go_upto_if 11 with (fail)
     go_cut [11] (fun v11 wc => ∃ (kq : Nat) (x11_6 : Bool), v11 = .bool x11_6 ∧ ze (zZ.j1 kq a0 x11_6 = some (r1, r2)) ∧ ze (kq ≤ kj1) ∧ zw w wc)
     case first =>
      have H := HC7.out
      clear HC7
      by_cases c8 : a0 = 3
      ·
       rw [if_pos c8] at H
       have c8b0 : (a0 == 3) = true := beq_iff_eq.mpr c8
       have c8b1 : (a0 != 3) = false := bne_eq_false_iff_eq.mpr c8
       clear c8
       (first | rw [c8b0] | (simp only [xy, xV]; rw [c8b0]) | skip)
       have H' := ze.mk H
       clear H
       go_wp2
       go_meet
       case rel => exact ⟨_, ((a0 == 3)), (by first | rfl | (simp; done) | (simp [*]; done)), H', ⟨by have := HJ1.out; first | omega | exact Nat.le_refl _⟩, by repeat (first | exact zw.refl _ | apply zw.step)⟩
      ·
       rw [if_neg c8] at H
       have c8b0 : (a0 == 3) = false := beq_eq_false_iff_ne.mpr c8
       have c8b1 : (a0 != 3) = true := bne_iff_ne.mpr c8
       (first | rw [c8b0] | (simp only [xy, xV]; rw [c8b0]) | skip)
       by_cases c9 : a0 = 6
       ·
        rw [if_pos c9] at H
        have c9b0 : (a0 == 6) = true := beq_iff_eq.mpr c9
        have c9b1 : (a0 != 6) = false := bne_eq_false_iff_eq.mpr c9
        clear c9
        have H' := ze.mk H
        clear H
        go_wp2
        go_meet
        case rel => exact ⟨_, ((a0 == 6)), (by first | rfl | (simp; done) | (simp [*]; done)), H', ⟨by have := HJ1.out; first | omega | exact Nat.le_refl _⟩, by repeat (first | exact zw.refl _ | apply zw.step)⟩
       ·
        rw [if_neg c9] at H
        have c9b0 : (a0 == 6) = false := beq_eq_false_iff_ne.mpr c9
        have c9b1 : (a0 != 6) = true := bne_iff_ne.mpr c9
        by_cases c10 : a0 = 16
        ·
         rw [if_pos c10] at H
         have c10b0 : (a0 == 16) = true := beq_iff_eq.mpr c10
         have c10b1 : (a0 != 16) = false := bne_eq_false_iff_eq.mpr c10
         clear c10
         have H' := ze.mk H
         clear H
         go_wp2
         go_meet
         case rel => exact ⟨_, ((a0 == 16)), (by first | rfl | (simp; done) | (simp [*]; done)), H', ⟨by have := HJ1.out; first | omega | exact Nat.le_refl _⟩, by repeat (first | exact zw.refl _ | apply zw.step)⟩
        ·
         rw [if_neg c10] at H
         have c10b0 : (a0 == 16) = false := beq_eq_false_iff_ne.mpr c10
         have c10b1 : (a0 != 16) = true := bne_iff_ne.mpr c10
         by_cases c11 : a0 = 22
         ·
          rw [if_pos c11] at H
          have c11b0 : (a0 == 22) = true := beq_iff_eq.mpr c11
          have c11b1 : (a0 != 22) = false := bne_eq_false_iff_eq.mpr c11
          clear c11
          have H' := ze.mk H
          clear H
          go_wp2
          go_meet
          case rel => exact ⟨_, ((a0 == 22)), (by first | rfl | (simp; done) | (simp [*]; done)), H', ⟨by have := HJ1.out; first | omega | exact Nat.le_refl _⟩, by repeat (first | exact zw.refl _ | apply zw.step)⟩
         ·
          rw [if_neg c11] at H
          have c11b0 : (a0 == 22) = false := beq_eq_false_iff_ne.mpr c11
          have c11b1 : (a0 != 22) = true := bne_iff_ne.mpr c11
          have H' := ze.mk H
          clear H
          go_wp2
          go_meet
          case rel => exact ⟨_, ((a0 == 23)), (by first | rfl | (simp; done) | (simp [*]; done)), H', ⟨by have := HJ1.out; first | omega | exact Nat.le_refl _⟩, by repeat (first | exact zw.refl _ | apply zw.step)⟩
     case rest =>
      clear HC7
      (try clear c6); (try clear c6b0); (try clear c6b1)
      obtain ⟨kq, x11_6, rfl, HA, HJ6, ⟨mc6, rfl⟩⟩ := hcut
      cases kq with
      | zero => exact absurd HA.out (by simp [zZ.j1])
      | succ kj6 =>
       have H := HA.out
       clear HA
       simp only [zZ.j1] at H
       by_cases c12 : x11_6 = true
       ·
        subst c12
        have H1 : (some (2, true)) = some (r1, r2) := by rw [if_pos rfl] at H; exact H
        clear H
        have H := H1
        clear H1
        simp only [Option.some.injEq, Prod.mk.injEq] at H
        obtain ⟨rfl, rfl⟩ := H
        go_wp2
        go_ret2
        exact ⟨by first | rfl | (simp; done) | (simp [*]; done), by repeat (first | exact zw.refl _ | apply zw.step)⟩
       ·
        replace c12 := Bool.eq_false_iff.mpr c12
        subst c12
        have H1 : (if a0 = 4 then (some (3, true)) else (some (0, false))) = some (r1, r2) := by rw [if_neg (show ¬ (false = true) by decide)] at H; exact H
        clear H
        have H := H1
        clear H1
        by_cases c13 : a0 = 4
        ·
         rw [if_pos c13] at H
         have c13b0 : (a0 == 4) = true := beq_iff_eq.mpr c13
         have c13b1 : (a0 != 4) = false := bne_eq_false_iff_eq.mpr c13
         clear c13
         simp only [Option.some.injEq, Prod.mk.injEq] at H
         obtain ⟨rfl, rfl⟩ := H
         go_wp2
         go_ret2
         exact ⟨by first | rfl | (simp; done) | (simp [*]; done), by repeat (first | exact zw.refl _ | apply zw.step)⟩
        ·
         rw [if_neg c13] at H
         have c13b0 : (a0 == 4) = false := beq_eq_false_iff_ne.mpr c13
         have c13b1 : (a0 != 4) = true := bne_iff_ne.mpr c13
         simp only [Option.some.injEq, Prod.mk.injEq] at H
         obtain ⟨rfl, rfl⟩ := H
         go_wp2
         go_ret2
         exact ⟨by first | rfl | (simp; done) | (simp [*]; done), by repeat (first | exact zw.refl _ | apply zw.step)⟩
def xn.f (l0 : List Int) (a1 : Int) : Option (List Int) := if 0 ≤ (wrap64 ((l0.length : Int) + 2)) then (if (wrap64 ((l0.length : Int) + 2) : Int).toNat ≤ 281474976710656 then ((some (List.replicate 0 0 : List Int)).bind fun y343 => (if y343.length + l0.length < 140737488355328 then ((some (y343 ++ l0 : List Int)).bind fun y346 => ((some (([(a1 / 256) % 256, (a1) % 256] : List Int) : List Int)).bind fun y349 => (if y346.length + y349.length < 140737488355328 then (some (y346 ++ y349)) else (none)))) else (none))) else (none)) else (none)
theorem xn.calls (A0 : Option Addr) (c0 : Nat) (l0 : List Int) (a1 : Int) (r : List Int) (w : World) (hr0 : Kd.C (Kd.int .u8) w A0 l0.length l0) (hc0 : l0.length ≤ c0) (h : xn.f l0 a1 = some r) :
  Calls Tryz.prog 150 #[.slice A0 l0.length c0, .int .u16 a1] w fun e w' => ∃ v0_ : Value, e = .returned (v0_) ∧ Kd.R (Kd.int .u8) 5 w' w.heap.size (fun _ => True) v0_ r ∧ Below w.heap.size w w' := by
 have HR0 := ze.mk hr0
 have HC0 := ze.mk hc0
 clear hr0 hc0
 have HB := ze.mk (Below.refl w.heap.size w)
 have H : (if 0 ≤ (wrap64 ((l0.length : Int) + 2)) then (if (wrap64 ((l0.length : Int) + 2) : Int).toNat ≤ 281474976710656 then ((some (List.replicate 0 0 : List Int)).bind fun y343 => (if y343.length + l0.length < 140737488355328 then ((some (y343 ++ l0 : List Int)).bind fun y346 => ((some (([(a1 / 256) % 256, (a1) % 256] : List Int) : List Int)).bind fun y349 => (if y346.length + y349.length < 140737488355328 then (some (y346 ++ y349)) else (none)))) else (none))) else (none)) else (none)) = some r := h
 clear h
 obtain ⟨ji3, hji3⟩ : ∃ j_ : Int, (wrap64 ((l0.length : Int) + 2)) = j_ := ⟨_, rfl⟩
 replace H : (if 0 ≤ (ji3) then (if (ji3 : Int).toNat ≤ 281474976710656 then ((some (List.replicate 0 0 : List Int)).bind fun y343 => (if y343.length + l0.length < 140737488355328 then ((some (y343 ++ l0 : List Int)).bind fun y346 => ((some (([(a1 / 256) % 256, (a1) % 256] : List Int) : List Int)).bind fun y349 => (if y346.length + y349.length < 140737488355328 then (some (y346 ++ y349)) else (none)))) else (none))) else (none)) else (none)) = some r := by first | (rw [hji3] at H; exact H) | (simp only [hji3] at H ⊢; exact H)
 have hji3w : (IntKind.i64.wrap ((l0.length : Int) + 2)) = ji3 := (xy _).trans hji3
 by_cases c4 : 0 ≤ (ji3)
 ·
  rw [if_pos c4] at H
  have c4b0 := eq_true c4
  have c4b1 : decide (0 ≤ (ji3)) = true := dT c4
  clear c4
  by_cases c5 : (ji3 : Int).toNat ≤ 281474976710656
  ·
   rw [if_pos c5] at H
   have c5b0 := eq_true c5
   have c5b1 : decide ((ji3 : Int).toNat ≤ 281474976710656) = true := dT c5
   clear c5
   obtain ⟨y343, hy343⟩ : ∃ y_ : List Int, y_ = (List.replicate 0 0) := ⟨_, rfl⟩
   replace H : (if y343.length + l0.length < 140737488355328 then ((some (y343 ++ l0 : List Int)).bind fun y346 => ((some (([(a1 / 256) % 256, (a1) % 256] : List Int) : List Int)).bind fun y349 => (if y346.length + y349.length < 140737488355328 then (some (y346 ++ y349)) else (none)))) else (none)) = some r := by first | (rw [hy343]; with_reducible exact H) | (have H2_ := (Option.bind_some _ _).symm.trans H; rw [hy343]; with_reducible exact H2_) | (have H2_ := (Option.bind_some _ _).symm.trans H; with_reducible exact H2_) | with_reducible exact H | (rw [hy343]; exact H) | exact H
   have Ny343 := ze.mk hy343
   clear hy343
   by_cases c6 : y343.length + l0.length < 140737488355328
   ·
    rw [if_pos c6] at H
    have LMc6 := ze.mk c6
    clear c6
    obtain ⟨y346, hy346⟩ : ∃ y_ : List Int, y_ = (y343 ++ l0) := ⟨_, rfl⟩
    replace H : ((some (([(a1 / 256) % 256, (a1) % 256] : List Int) : List Int)).bind fun y349 => (if y346.length + y349.length < 140737488355328 then (some (y346 ++ y349)) else (none))) = some r := by first | (rw [hy346]; with_reducible exact H) | (have H2_ := (Option.bind_some _ _).symm.trans H; rw [hy346]; with_reducible exact H2_) | (have H2_ := (Option.bind_some _ _).symm.trans H; with_reducible exact H2_) | with_reducible exact H | (rw [hy346]; exact H) | exact H
    have Ny346 := ze.mk hy346
    clear hy346
    obtain ⟨y349, hy349⟩ : ∃ y_ : List Int, y_ = (([(a1 / 256) % 256, (a1) % 256] : List Int)) := ⟨_, rfl⟩
    replace H : (if y346.length + y349.length < 140737488355328 then (some (y346 ++ y349)) else (none)) = some r := by first | (rw [hy349]; with_reducible exact H) | (have H2_ := (Option.bind_some _ _).symm.trans H; rw [hy349]; with_reducible exact H2_) | (have H2_ := (Option.bind_some _ _).symm.trans H; with_reducible exact H2_) | with_reducible exact H | (rw [hy349]; exact H) | exact H
    have Ny349 := ze.mk hy349
    clear hy349
    by_cases c7 : y346.length + y349.length < 140737488355328
    ·
     rw [if_pos c7] at H
     have LMc7 := ze.mk c7
     clear c7
     obtain ⟨y352, hy352⟩ : ∃ y_ : List Int, y_ = (y346 ++ y349) := ⟨_, rfl⟩
     replace H : (some y352) = some r := by first | (rw [hy352]; with_reducible exact H) | (have H2_ := (Option.bind_some _ _).symm.trans H; rw [hy352]; with_reducible exact H2_) | (have H2_ := (Option.bind_some _ _).symm.trans H; with_reducible exact H2_) | with_reducible exact H | (rw [hy352]; exact H) | exact H
     have Ny352 := ze.mk hy352
     clear hy352
     obtain rfl := Option.some.inj H
     go_enter Tryz.func150, Tryz.ntmps150
     go_wp2_with (first | ((with_reducible refine zN (N := 9) rfl ?_); refine Kd.zb1 (Kd.int .u8) _ 5 rfl (N := 9) rfl 59 _ _ rfl ji3 rfl rfl Tryz.underlying59 (.int .u8 0) 1 info5 rfl (by decide) (by omega) 0 (ok := fun _ => True) (okp := fun _ => True) rfl (fun _ hk => hk) trivial (of_decide_eq_true (by first | (with_reducible assumption) | assumption)) (Nat.le_trans (Nat.mul_le_mul_right _ (of_decide_eq_true (by first | (with_reducible assumption) | assumption) : ji3.toNat ≤ 281474976710656)) (by omega)) (Below.refl _ _) (Nat.le_refl _) ?_; intro v344 w8 ho9 hb hg_ hnew_; clear hg_ hnew_; (first | rw [← Ny343.out] at ho9 | (simp only [Int.reduceToNat] at ho9; rw [← Ny343.out] at ho9)); have HO345 := ze.mk (Kd.zU ho9 (zt (HB.out))); replace HB := ze.mk (zG (HB.out) hb); clear hb ho9) | ((with_reducible refine yj (b := .append) (xs := #[.tmp 10, .tmp 11]) rfl ?_); at_builtin; refine Kd.yD (Kd.int .u8) (w0 := w) w.heap.size rfl (.tmp 10) (.tmp 11) 59 5 (.int .u8 0) 1 rfl Tryz.underlying59 info5 rfl (by decide) (by omega) v344 y343 l0 _ _ _ (fun _ => True) (fun _ => False) rfl rfl ?aO ?aR (fun _ _ h => h) (fun _ h => h.elim) ?aF ?aB ?aS ?aL ?_; (case aR => repeat (first | exact (Kd.zx HR0.out HB.out) | (with_reducible refine Kd.yC ?_ _) | (with_reducible refine Kd.yF ?_ _) | (with_reducible refine Kd.xe ?_))); (case aB => exact (HB.out)); (case aF => exact (fun _ _ => trivial)); (case aO => exact (HO345.out)); (case aS => exact (zt (HB.out))); (case aL => have := LMc6.out; omega); intro v347 w10 ho hb hg hat; rw [← Ny346.out] at ho; replace HB := ze.mk (hb); have HO348 := ze.mk (ho); clear HO345; clear ho hb hg hat) | ((with_reducible refine zN (N := 19) rfl ?_); refine Kd.vw (Kd.int .u8) _ 5 ?hg (N := 19) ?hd (xs := ([(a1 / 256) % 256, (a1) % 256] : List Int)) (inner := [.int .u8 ((a1 / 256) % 256), .int .u8 ((a1) % 256)]) (ok := fun _ => True) (okp := fun _ => True) ?hr ?hp (fun _ hk => hk) trivial (Below.refl _ _) (Nat.le_refl _) (by simp) ?_; (case hd => rfl); (case hg => rfl); (case hr => first | (go_simp; done) | (go_simp; rfl)); (case hp => exact (yJ.one (show Kd.M (Kd.int .u8) _ _ _ ((a1 / 256) % 256) [.int .u8 ((a1 / 256) % 256)] from rfl) (yJ.one (show Kd.M (Kd.int .u8) _ _ _ ((a1) % 256) [.int .u8 ((a1) % 256)] from rfl) (yJ.none _ _)))); intro v350 w11 ho12 hb hg_ hnew_; clear hg_ hnew_; (first | rw [← Ny349.out] at ho12 | (simp only [Int.reduceToNat] at ho12; rw [← Ny349.out] at ho12)); have HO351 := ze.mk (Kd.zU (Kd.ZU ho12 (Kd.Xb (HO348.out))) (zt (HB.out))); replace HO348 := ze.mk (Kd.kK (HO348.out) (Kd.kg ho12) hb); replace HB := ze.mk (zG (HB.out) hb); clear hb ho12; obtain ⟨Ao14, co14, eo14⟩ := Kd.yc HO351.out; subst eo14) | ((with_reducible refine yj (b := .append) (xs := #[.tmp 13, .tmp 19]) rfl ?_); at_builtin; refine Kd.yD (Kd.int .u8) (w0 := w) w.heap.size rfl (.tmp 13) (.tmp 19) 59 5 (.int .u8 0) 1 rfl Tryz.underlying59 info5 rfl (by decide) (by omega) v347 y346 y349 _ _ _ (fun k_ => some k_ ≠ (.slice Ao14 y349.length co14 : Value).ownBlock) (fun _ => False) rfl rfl ?aO ?aR (fun _ _ h => h) (fun _ h => h.elim) ?aF ?aB ?aS ?aL ?_; (case aR => repeat (first | exact (Kd.zB HO351.out).2.2 | (with_reducible refine Kd.yC ?_ _) | (with_reducible refine Kd.yF ?_ _) | (with_reducible refine Kd.xe ?_))); (case aB => exact (HB.out)); (case aF => exact (fun k_ hk => Kd.fresh' (Kd.Xb (HO351.out)) k_ hk)); (case aO => exact (Kd.yX HO348.out (fun _ hk => by first | exact hk.2 | exact hk))); (case aS => exact (zt (HB.out))); (case aL => have := LMc7.out; omega); intro v353 w13 ho hb hg hat; rw [← Ny352.out] at ho; replace HO351 := ze.mk (Kd.vT (ok := (fun _ => True)) (HO351.out) hg hat); replace HB := ze.mk (hb); have HO354 := ze.mk (ho); clear HO348; clear ho hb hg hat))
     go_ret
     exact ⟨_, by first | rfl | (simp [zC, zD] <;> rfl) | (simp only [← hji3]; first | rfl | (simp [zC, zD] <;> rfl)) | (simp [*, zC, zD] <;> rfl), Kd.yX HO354.out (fun _ hk => trivial), HB.out⟩
    ·
     rw [if_neg c7] at H
     exact absurd H (by simp)
   ·
    rw [if_neg c6] at H
    exact absurd H (by simp)
  ·
   rw [if_neg c5] at H
   exact absurd H (by simp)
 ·
  rw [if_neg c4] at H
  exact absurd H (by simp)
theorem za9 (d : Nat) (w : World) (x0 y0 : Int) (x1 y1 : Int) (x2 y2 : Int) :
  (Op.equalIn (d + 2) 201 (.agg #[.int .i64 x0, .int .i64 x1, .int .i64 x2]) (.agg #[.int .i64 y0, .int .i64 y1, .int .i64 y2])).run Tryz.prog w = .ok (x0 == y0 && (x1 == y1 && (x2 == y2))) w := by
 refine zdd Tryz.underlying201 (by kernel_rfl) ?_
 refine QS (by rfl) (by go_simp; rfl) (by go_simp; rfl) (by go_simp) ?_
 refine QS (by rfl) (by go_simp; rfl) (by go_simp; rfl) (by go_simp) ?_
 exact zbo (by rfl) (by go_simp; rfl) (by go_simp; rfl) (by go_simp)
end Go.Proofs.YtlalbohhopmpdaaGreat.PTop
namespace Go.Proofs.YtlalbohhopmpdaaGreat.PTop
open Go.Proofs.YtlalbohhopmpdaaGreat.Tiny
open Go.RowKit Go.YW.PrintWords Go.YW.PrintLast Go.YW.PrintMore
attribute [local go_sem] yN yO xu xw yP yR xm xq zk zo   -- for this text's walks alone
attribute [local go_sem high] za9
def xX.l0 : Nat → List Int → List Int → Int → Int → Option (List Int)
 | 0, _, _, _, _ => none
 | k + 1, x0, x7, x8, x9 => if x9 < x8 then (if 0 ≤ x9 then (if x9 < (x7.length : Int) then ((xn.f x0 (rd x7 x9)).bind fun t356 => (xX.l0 k t356 x7 x8 (wrap64 (x9 + 1)))) else (none)) else (none)) else (some x0)
def xX.f (k : Nat) (l0 : List Int) (l1 : List Int) : Option (List Int) := xX.l0 k l0 l1 (l1.length : Int) 0
theorem xX.calls (k : Nat) (P0_ : Nat → Prop) (A0 : Option Addr) (c0 : Nat) (l0 : List Int) (A1 : Option Addr) (c1 : Nat) (l1 : List Int) (r : List Int) (w : World) (hs0 : Kd.V (Kd.int .u8) 5 w w.heap.size (fun k_ => P0_ k_) (.slice A0 l0.length c0) l0) (hr1 : Kd.C (Kd.int .u16) w A1 l1.length l1) (hc1 : l1.length ≤ c1) (h : xX.f k l0 l1 = some r) :
  Calls Tryz.prog 147 #[.slice A0 l0.length c0, .slice A1 l1.length c1] w fun e w' => ∃ v0_ : Value, e = .returned (v0_) ∧ Kd.V (Kd.int .u8) 5 w' w.heap.size (fun k_ => (P0_ k_ ∨ w.heap.size ≤ k_)) v0_ r ∧ Below w.heap.size w w' := by
 have HO0 := ze.mk (show Kd.V (Kd.int .u8) 5 w w.heap.size (fun k_ => (P0_ k_ ∨ w.heap.size ≤ k_)) (.slice A0 l0.length c0) l0 from Kd.zat hs0 (fun k_ hk => .inl hk))
 have HR1 := ze.mk hr1
 have HC1 := ze.mk hc1
 clear hr1 hc1
 have HB := ze.mk (Below.refl w.heap.size w)
 have H : (xX.l0 k l0 l1 (l1.length : Int) 0) = some r := h
 clear h
 have H' := ze.mk H
 clear H
 go_enter Tryz.func147, Tryz.ntmps147
 go_wp2
 go_loopg [0, 9] k (fun kq v0 v9 w' => ∃ (x0_1 : List Int) (x9_1 : Int), v9 = .int .i64 x9_1 ∧ ze (xX.l0 kq x0_1 l1 (l1.length : Int) x9_1 = some r) ∧ ze (kq ≤ k) ∧ ze (Kd.V (Kd.int .u8) 5 w' w.heap.size (fun k_ => (P0_ k_ ∨ w.heap.size ≤ k_)) v0 x0_1) ∧ ze (Below w.heap.size w w'))
 case atStart => exact ⟨(l0), (0), (by first | rfl | (simp; done) | (simp [*]; done)), H', ⟨Nat.le_refl _⟩, ⟨HO0.out⟩, ⟨HB.out⟩⟩
 case round =>
  clear H'
  (try clear c1)
  obtain ⟨x0_1, x9_1, rfl, HA, HK1, HO_0, HB⟩ := hrel
  cases gk with
  | zero => exact absurd HA.out (by simp [xX.l0])
  | succ k1 =>
   have H := HA.out
   clear HA
   simp only [xX.l0] at H
   by_cases c3 : x9_1 < (l1.length : Int)
   ·
    rw [if_pos c3] at H
    have c3b0 : decide (x9_1 < (l1.length : Int)) = true := dT c3
    clear c3
    by_cases c4 : 0 ≤ x9_1
    ·
     rw [if_pos c4] at H
     have c4b0 : decide (0 ≤ x9_1) = true := dT c4
     clear c4
     by_cases c5 : x9_1 < (l1.length : Int)
     ·
      rw [if_pos c5] at H
      have c5b0 : decide (x9_1 < (l1.length : Int)) = true := dT c5
      clear c5
      replace H := Option.bind_eq_some_iff.mp H
      obtain ⟨t356, A60, H⟩ := H
      have A6 := ze.mk A60
      clear A60
      have H' := ze.mk H
      clear H
      have p355 : 0 ≤ (x9_1 : Int) := of_decide_eq_true (by first | (with_reducible assumption) | assumption)
      have q355 : x9_1 < (l1.length : Int) := of_decide_eq_true (by first | (with_reducible assumption) | assumption)
      obtain ⟨ad355, e355, hx355_0⟩ := Kd.qH HR1.out x9_1 p355 q355
      cases e355
      replace hx355_0 := (HB.out.cell (World.block_lt_of_cell? w _ hx355_0)).trans hx355_0
      replace p355 := eq_true p355
      replace q355 := eq_true q355
      obtain ⟨Ao7, co7, eo7⟩ := Kd.zbG HO_0.out
      subst eo7
      go_wp2_with (first | ((with_reducible refine zO (f := 150) rfl ?_); refine yL (some 15) rfl rfl Tryz.func150 (by kernel_rfl) rfl #[.slice Ao7 x0_1.length co7, .int .u16 (rd l1 x9_1)] rfl (by (try simp only [List.map_toArray, List.map_cons, List.map_nil]); first | done | rfl | (simp only [List.length_drop, List.length_take]; rfl)) ?_; (with_reducible refine (xn.calls _ _ x0_1 (rd l1 x9_1) t356 _ ?side1 ?side2 A6.out).mono ?_); (case side1 => repeat (first | exact (Kd.Jb HO_0.out).2.2 | (with_reducible refine Kd.yC ?_ _) | (with_reducible refine Kd.yF ?_ _) | (with_reducible refine Kd.xe ?_))); (case side2 => exact (Kd.Jb HO_0.out).2.1); rintro e w8 ⟨v357, rfl, ho0, hb⟩; refine ⟨_, rfl, ?_⟩; replace HO_0 := ze.mk (Kd.zbn (HO_0.out) (Kd.kg ho0) hb); have HO358 := ze.mk (Kd.zU (Kd.zcT (M := fun k_ => (w.heap.size ≤ k_)) ho0 (zt (HB.out)) (fun k_ h_ => h_)) (zt (HB.out))); replace HB := ze.mk (zG (HB.out) hb); (try clear hb); (try clear ho0)))
      go_roundg k1
      case measure => have := HK1.out; omega
      case rel => exact ⟨(t356), (wrap64 (x9_1 + 1)), (by first | rfl | (simp; done) | (simp [*]; done)), H', ⟨by have := HK1.out; omega⟩, ⟨Kd.zat (Kd.R_V (Kd.yX HO358.out (fun _ hk => by first | exact hk.1 | exact hk))) (fun k_ hk => by first | exact ⟨(.inr (hk.1)), hk.2⟩ | exact (.inr (hk)))⟩, ⟨HB.out⟩⟩
     ·
      rw [if_neg c5] at H
      exact absurd H (by simp)
    ·
     rw [if_neg c4] at H
     exact absurd H (by simp)
   ·
    rw [if_neg c3] at H
    have c3b0 : decide (x9_1 < (l1.length : Int)) = false := dF c3
    clear c3
    obtain rfl := Option.some.inj H
    go_wp2
    go_ret
    exact ⟨_, by first | rfl | (simp [zC, zD] <;> rfl) | (simp [*, zC, zD] <;> rfl), by (with_reducible repeat (first | apply Kd.V_alloc | apply Kd.V_drewN | apply Kd.V_drew)); exact HO_0.out, HB.out⟩
def jv.f (a0_0 : Int) (a0_1 : Int) (a0_2 : Int) : Option (List Int × Int) := (xQ.f a0_0 a0_1 a0_2).bind fun bt361 => (if (!(a0_0 == bt361.1) || (!(a0_1 == bt361.2.1) || (!(a0_2 == bt361.2.2)))) = true then (some (([] : List Int), 1)) else ((xn.f ([] : List Int) (IntKind.u16.wrap (a0_0))).bind fun t364 => ((xn.f t364 0).bind fun t367 => ((xn.f t367 (IntKind.u16.wrap (a0_1))).bind fun t370 => (if t370.length < 140737488355328 then (some ((t370 ++ [(a0_2) % 256]), 0)) else (none))))))
theorem jv.calls (a0_0 : Int) (a0_1 : Int) (a0_2 : Int) (r1 : List Int) (r2 : Int) (w : World) (h : jv.f a0_0 a0_1 a0_2 = some (r1, r2)) :
  Calls Tryz.prog 109 #[.agg #[.int .i64 a0_0, .int .i64 a0_1, .int .i64 a0_2]] w fun e w' => ∃ v0_ : Value, e = .returned (.tuple #[v0_, .int .i64 r2]) ∧ Kd.R (Kd.int .u8) 5 w' w.heap.size (fun _ => True) v0_ r1 ∧ Below w.heap.size w w' := by
 have hu201 := Tryz.underlying201
 have HB := ze.mk (Below.refl w.heap.size w)
 have H : ((xQ.f a0_0 a0_1 a0_2).bind fun bt361 => (if (!(a0_0 == bt361.1) || (!(a0_1 == bt361.2.1) || (!(a0_2 == bt361.2.2)))) = true then (some (([] : List Int), 1)) else ((xn.f ([] : List Int) (IntKind.u16.wrap (a0_0))).bind fun t364 => ((xn.f t364 0).bind fun t367 => ((xn.f t367 (IntKind.u16.wrap (a0_1))).bind fun t370 => (if t370.length < 140737488355328 then (some ((t370 ++ [(a0_2) % 256]), 0)) else (none))))))) = some (r1, r2) := h
 clear h
 replace H := Option.bind_eq_some_iff.mp H
 obtain ⟨⟨t361, t362, t363⟩, A20, H⟩ := H
 replace H : (if (!(a0_0 == t361) || (!(a0_1 == t362) || (!(a0_2 == t363)))) = true then (some (([] : List Int), 1)) else ((xn.f ([] : List Int) (IntKind.u16.wrap (a0_0))).bind fun t364 => ((xn.f t364 0).bind fun t367 => ((xn.f t367 (IntKind.u16.wrap (a0_1))).bind fun t370 => (if t370.length < 140737488355328 then (some ((t370 ++ [(a0_2) % 256]), 0)) else (none)))))) = some (r1, r2) := H
 have A2 := ze.mk A20
 clear A20
 by_cases c3 : (!(a0_0 == t361) || (!(a0_1 == t362) || (!(a0_2 == t363)))) = true
 ·
  rw [if_pos c3] at H
  have c3b0 : (!(a0_0 == t361) || (!(a0_1 == t362) || (!(a0_2 == t363)))) = true := c3
  clear c3
  simp only [Option.some.injEq, Prod.mk.injEq] at H
  obtain ⟨rfl, rfl⟩ := H
  go_enter Tryz.func109, Tryz.ntmps109
  try go_wp2_with (first | ((with_reducible refine zN (N := 1) rfl ?_); refine yf ?hg (N := 1) ?hd (cs := #[.int .i64 a0_0, .int .i64 a0_1, .int .i64 a0_2]) (t := 201) ?hr ?_; (case hd => rfl); (case hg => rfl); (case hr => first | (go_simp; done) | (go_simp; rfl)); intro gb360 hg w4 hbox hb; have BK360 := ze.mk (hbox); have GW360 := ze.mk ((by rw [hg]; exact (zt (HB.out)) : w.heap.size ≤ gb360)); have GE360 := ze.mk ((by rw [hg]; exact (zt (HB.out)) : w.heap.size ≤ gb360)); replace HB := ze.mk (zG (HB.out) hb); clear hb hbox hg))
  have n0_ := ze.mk (zn BK360.out)
  have n1_ := ze.mk (zI HB.out)
  clear BK360
  clear HB
  have BK360 := n0_
  have HB := n1_
  clear n0_ n1_
  refine sq_ (ds := []) #[false,false,false,false] (fun w' => w'.cell? ⟨gb360, 0, none⟩ = some (.int .i64 a0_0) ∧ w'.cell? ⟨gb360, 1, none⟩ = some (.int .i64 a0_1) ∧ w'.cell? ⟨gb360, 2, none⟩ = some (.int .i64 a0_2)) ⟨(za BK360.out 0).trans rfl, (za BK360.out 1).trans rfl, (za BK360.out 2).trans rfl⟩ (fun hHeld => ?_)
  generalize w4.drew = w5 at BK360 HB hHeld ⊢
  refine tq_ 0 (some 5) hHeld ?_
  refine tq_ 1 (some 6) hHeld ?_
  refine oq_ 2 (some 7) (fun K hK => ?_)
  refine yh Tryz.func149 (by kernel_rfl) rfl #[.agg #[.int .i64 a0_0, .int .i64 a0_1, .int .i64 a0_2]] (by rfl) rfl rfl (by (try simp only [List.map_toArray, List.map_cons, List.map_nil]); first | done | rfl | (simp only [List.length_drop, List.length_take]; rfl)) ?_
  with_reducible refine (xQ.calls a0_0 a0_1 a0_2 t361 t362 t363 _ A2.out).mono ?_
  rintro e w6 ⟨rfl, hb⟩
  refine ⟨_, rfl, ?_⟩
  have n0_ := ze.mk (zb BK360.out hb)
  have n1_ := ze.mk (zG (HB.out) hb)
  clear BK360
  clear HB
  have BK360 := n0_
  have HB := n1_
  clear n0_ n1_
  (try clear hb)
  (try clear hb2)
  (try clear hk)
  (try clear hi)
  refine hK.out _ _ ⟨(za BK360.out 0).trans rfl, (za BK360.out 1).trans rfl, (za BK360.out 2).trans rfl⟩ (fun hHeld => ?_)
  clear hK K
  refine nq_ ?_
  refine pq_ 3 (some 8) ?_
  refine xJ (by kernel_rfl) ?_
  try go_wp2
  go_ret2
  exact ⟨_, by first | rfl | (simp [zC, zD] <;> rfl) | (simp [*, zC, zD] <;> rfl), by first | exact Kd.ql _ _ _ _ _ | exact Kd.N_nil _ _ _ _ _ | exact Kd.V_nil _ _ _ _ _ | exact Kd.Q_nil _ _ _ _ _ | exact Kd.S_nil _ _ _ _ _, HB.out⟩
 ·
  rw [if_neg c3] at H
  have c3b0 : (!(a0_0 == t361) || (!(a0_1 == t362) || (!(a0_2 == t363)))) = false := by simpa using c3
  clear c3
  replace H := Option.bind_eq_some_iff.mp H
  obtain ⟨t364, A70, H⟩ := H
  have A7 := ze.mk A70
  clear A70
  replace H := Option.bind_eq_some_iff.mp H
  obtain ⟨t367, A80, H⟩ := H
  have A8 := ze.mk A80
  clear A80
  replace H := Option.bind_eq_some_iff.mp H
  obtain ⟨t370, A90, H⟩ := H
  have A9 := ze.mk A90
  clear A90
  by_cases c10 : t370.length < 140737488355328
  ·
   rw [if_pos c10] at H
   have LMc10 := ze.mk c10
   clear c10
   obtain ⟨y373, hy373⟩ : ∃ y_ : List Int, y_ = (t370 ++ [(a0_2) % 256]) := ⟨_, rfl⟩
   replace H : (some (y373, 0)) = some (r1, r2) := by first | (rw [hy373]; with_reducible exact H) | (have H2_ := (Option.bind_some _ _).symm.trans H; rw [hy373]; with_reducible exact H2_) | (have H2_ := (Option.bind_some _ _).symm.trans H; with_reducible exact H2_) | with_reducible exact H | (rw [hy373]; exact H) | exact H
   have Ny373 := ze.mk hy373
   clear hy373
   simp only [Option.some.injEq, Prod.mk.injEq] at H
   obtain ⟨rfl, rfl⟩ := H
   go_enter Tryz.func109, Tryz.ntmps109
   try go_wp2_with (first | ((with_reducible refine zN (N := 1) rfl ?_); refine yf ?hg (N := 1) ?hd (cs := #[.int .i64 a0_0, .int .i64 a0_1, .int .i64 a0_2]) (t := 201) ?hr ?_; (case hd => rfl); (case hg => rfl); (case hr => first | (go_simp; done) | (go_simp; rfl)); intro gb360 hg w11 hbox hb; have BK360 := ze.mk (hbox); have GW360 := ze.mk ((by rw [hg]; exact (zt (HB.out)) : w.heap.size ≤ gb360)); have GE360 := ze.mk ((by rw [hg]; exact (zt (HB.out)) : w.heap.size ≤ gb360)); replace HB := ze.mk (zG (HB.out) hb); clear hb hbox hg))
   have n0_ := ze.mk (zn BK360.out)
   have n1_ := ze.mk (zI HB.out)
   clear BK360
   clear HB
   have BK360 := n0_
   have HB := n1_
   clear n0_ n1_
   refine sq_ (ds := []) #[false,false,false,false] (fun w' => w'.cell? ⟨gb360, 0, none⟩ = some (.int .i64 a0_0) ∧ w'.cell? ⟨gb360, 1, none⟩ = some (.int .i64 a0_1) ∧ w'.cell? ⟨gb360, 2, none⟩ = some (.int .i64 a0_2)) ⟨(za BK360.out 0).trans rfl, (za BK360.out 1).trans rfl, (za BK360.out 2).trans rfl⟩ (fun hHeld => ?_)
   generalize w11.drew = w12 at BK360 HB hHeld ⊢
   refine tq_ 0 (some 5) hHeld ?_
   refine tq_ 1 (some 6) hHeld ?_
   refine oq_ 2 (some 7) (fun K hK => ?_)
   refine yh Tryz.func149 (by kernel_rfl) rfl #[.agg #[.int .i64 a0_0, .int .i64 a0_1, .int .i64 a0_2]] (by rfl) rfl rfl (by (try simp only [List.map_toArray, List.map_cons, List.map_nil]); first | done | rfl | (simp only [List.length_drop, List.length_take]; rfl)) ?_
   with_reducible refine (xQ.calls a0_0 a0_1 a0_2 t361 t362 t363 _ A2.out).mono ?_
   rintro e w13 ⟨rfl, hb⟩
   refine ⟨_, rfl, ?_⟩
   have n0_ := ze.mk (zb BK360.out hb)
   have n1_ := ze.mk (zG (HB.out) hb)
   clear BK360
   clear HB
   have BK360 := n0_
   have HB := n1_
   clear n0_ n1_
   (try clear hb)
   (try clear hb2)
   (try clear hk)
   (try clear hi)
   refine hK.out _ _ ⟨(za BK360.out 0).trans rfl, (za BK360.out 1).trans rfl, (za BK360.out 2).trans rfl⟩ (fun hHeld => ?_)
   clear hK K
   refine nq_ ?_
   refine pq_ 3 (some 8) ?_
   refine xJ (by kernel_rfl) ?_
   obtain ⟨hcz14_0, hcz14_1, hcz14_2⟩ := zS BK360.out
   obtain ⟨hfz14_0, hfz14_1, hfz14_2⟩ := xD BK360.out
   try go_wp2_with (first | ((with_reducible refine zO (f := 150) rfl ?_); refine yL (some 12) rfl rfl Tryz.func150 (by kernel_rfl) rfl #[.slice none 0 0, .int .u16 (IntKind.u16.wrap (a0_0))] rfl (by (try simp only [List.map_toArray, List.map_cons, List.map_nil]); first | done | rfl | (simp only [List.length_drop, List.length_take]; rfl)) ?_; (refine (xn.calls _ _ ([] : List Int) (IntKind.u16.wrap (a0_0)) t364 _ ?side1 ?side2 A7.out).mono ?_); (case side1 => exact Kd.ko _ _); (case side2 => exact Nat.le_refl _); rintro e w15 ⟨v365, rfl, ho0, hb⟩; refine ⟨_, rfl, ?_⟩; have HO366 := ze.mk (Kd.zU ho0 (zt (HB.out))); replace BK360 := ze.mk (zb BK360.out hb); replace HB := ze.mk (zG (HB.out) hb); (try clear hb); (try clear ho0); obtain ⟨Ao16, co16, eo16⟩ := Kd.yc HO366.out; subst eo16) | ((with_reducible refine zO (f := 150) rfl ?_); refine yL (some 14) rfl rfl Tryz.func150 (by kernel_rfl) rfl #[.slice Ao16 t364.length co16, .int .u16 0] rfl (by (try simp only [List.map_toArray, List.map_cons, List.map_nil]); first | done | rfl | (simp only [List.length_drop, List.length_take]; rfl)) ?_; (with_reducible refine (xn.calls _ _ t364 0 t367 _ ?side1 ?side2 A8.out).mono ?_); (case side1 => repeat (first | exact (Kd.zB HO366.out).2.2 | (with_reducible refine Kd.yC ?_ _) | (with_reducible refine Kd.yF ?_ _) | (with_reducible refine Kd.xe ?_))); (case side2 => exact (Kd.zB HO366.out).2.1); rintro e w17 ⟨v368, rfl, ho0, hb⟩; refine ⟨_, rfl, ?_⟩; have HO369 := ze.mk (Kd.zU (Kd.ZU ho0 (Kd.Xb (HO366.out))) (zt (HB.out))); replace HO366 := ze.mk (Kd.kK (HO366.out) (Kd.kg ho0) hb); replace BK360 := ze.mk (zb BK360.out hb); replace HB := ze.mk (zG (HB.out) hb); (try clear hb); (try clear ho0); obtain ⟨hcz18_0, hcz18_1, hcz18_2⟩ := zS BK360.out; obtain ⟨hfz18_0, hfz18_1, hfz18_2⟩ := xD BK360.out; obtain ⟨Ao19, co19, eo19⟩ := Kd.yc HO369.out; subst eo19) | ((with_reducible refine zO (f := 150) rfl ?_); refine yL (some 19) rfl rfl Tryz.func150 (by kernel_rfl) rfl #[.slice Ao19 t367.length co19, .int .u16 (IntKind.u16.wrap (a0_1))] rfl (by (try simp only [List.map_toArray, List.map_cons, List.map_nil]); first | done | rfl | (simp only [List.length_drop, List.length_take]; rfl)) ?_; (with_reducible refine (xn.calls _ _ t367 (IntKind.u16.wrap (a0_1)) t370 _ ?side1 ?side2 A9.out).mono ?_); (case side1 => repeat (first | exact (Kd.zB HO369.out).2.2 | (with_reducible refine Kd.yC ?_ _) | (with_reducible refine Kd.yF ?_ _) | (with_reducible refine Kd.xe ?_))); (case side2 => exact (Kd.zB HO369.out).2.1); rintro e w20 ⟨v371, rfl, ho0, hb⟩; refine ⟨_, rfl, ?_⟩; have HO372 := ze.mk (Kd.zU (Kd.ZU (Kd.ZU ho0 (Kd.Xb (HO366.out))) (Kd.Xb (HO369.out))) (zt (HB.out))); replace HO366 := ze.mk (Kd.kK (HO366.out) (Kd.kg ho0) hb); replace HO369 := ze.mk (Kd.kK (HO369.out) (Kd.kg ho0) hb); replace BK360 := ze.mk (zb BK360.out hb); replace HB := ze.mk (zG (HB.out) hb); (try clear hb); (try clear ho0); obtain ⟨hcz21_0, hcz21_1, hcz21_2⟩ := zS BK360.out; obtain ⟨hfz21_0, hfz21_1, hfz21_2⟩ := xD BK360.out) | ((with_reducible refine yj (b := .append) (xs := #[.tmp 20, .tmp 24]) rfl ?_); at_builtin; refine Kd.ZJ (Kd.int .u8) (w0 := w) w.heap.size rfl (.tmp 20) (.tmp 24) 59 5 (.int .u8 0) 1 rfl Tryz.underlying59 info5 rfl (by decide) (by omega) v371 t370 ((a0_2) % 256) [.int .u8 ((a0_2) % 256)] (fun k_ => some k_ ≠ (.slice Ao16 t364.length co16 : Value).ownBlock ∧ some k_ ≠ (.slice Ao19 t367.length co19 : Value).ownBlock) (fun _ => False) rfl rfl ?aP (fun _ hk => hk.elim) ?aF ?aO ?aB ?aS ?aL ?_; (case aP => exact rfl); (case aB => exact (HB.out)); (case aF => exact (fun k_ hk => ⟨Kd.fresh' (Kd.Xb (HO366.out)) k_ hk, Kd.fresh' (Kd.Xb (HO369.out)) k_ hk⟩)); (case aO => exact (Kd.yX HO372.out (fun _ hk => ⟨hk.1.2, hk.2⟩))); (case aS => exact (zt (HB.out))); (case aL => have := LMc10.out; omega); intro v374 w22 ho hb hg hat; rw [← Ny373.out] at ho; replace BK360 := ze.mk (yG (g := gb360) (o := .cells #[.int .i64 a0_0, .int .i64 a0_1, .int .i64 a0_2] 201 (0, 0)) (BK360.out) hg (Kd.Qz HO372.out BK360.out (by decide))); replace HO366 := ze.mk (Kd.vT (ok := (fun k_ => some k_ ≠ (.slice Ao19 t367.length co19 : Value).ownBlock)) (Kd.yX HO366.out (fun _ hk => ⟨hk.1.2, hk.2⟩)) hg hat); replace HO369 := ze.mk (Kd.vT (ok := (fun k_ => some k_ ≠ (.slice Ao16 t364.length co16 : Value).ownBlock)) (Kd.yX HO369.out (fun _ hk => ⟨hk.1.2, hk.2⟩)) hg hat); replace HB := ze.mk (hb); have HO375 := ze.mk (ho); clear HO372; clear ho hb hg hat))
   go_ret2
   exact ⟨_, by first | rfl | (simp [zC, zD] <;> rfl) | (simp [*, zC, zD] <;> rfl), Kd.yX HO375.out (fun _ hk => trivial), HB.out⟩
  ·
   rw [if_neg c10] at H
   exact absurd H (by simp)
end Go.Proofs.YtlalbohhopmpdaaGreat.PTop
namespace Go.Proofs.YtlalbohhopmpdaaGreat.Top
open Go.RowKit Go.Proofs.YtlalbohhopmpdaaGreat.PTop Go.YW.PrintWords Go.YW.PrintLast Go.YW.PrintMore Go.Proofs.YtlalbohhopmpdaaGreat.Num
attribute [local go_sem] zk zo
def yx : List Int → List Int
  | [] => []
  | x :: l => (x / 256) % 256 :: x % 256 :: yx l
theorem xN : ∀ l : List Int, (yx l).length = 2 * l.length
  | [] => rfl
  | x :: l => by simp only [yx, List.length_cons, xN l]; omega
theorem zd9 (l : List Int) (x : Int) (h : l.length ≤ 100000) : xn.f l x = some (l ++ [(x / 256) % 256, x % 256]) := by
  unfold xn.f
  have hw : wrap64 ((l.length : Int) + 2) = (l.length : Int) + 2 := zu (by omega) (by omega)
  rw [hw, if_pos (by omega), if_pos (by omega), Option.bind_some, if_pos (by simp; omega), Option.bind_some, Option.bind_some, if_pos (by simp; omega)]
  rfl
theorem zau (l : List Int) (hl : l.length ≤ 1000) : ∀ (k i : Nat) (b : List Int), l.length - i < k → i ≤ l.length → b.length ≤ 100 + 2 * i → xX.l0 k b l (l.length : Int) (i : Int) = some (b ++ yx (l.drop i))
  | 0, _, _, h, _, _ => absurd h (Nat.not_lt_zero _)
  | k + 1, i, b, h, hi, hb => by
    rw [xX.l0]
    by_cases h1 : i < l.length
    · rw [if_pos (by omega), if_pos (by omega), if_pos (by omega), zd9 _ _ (by omega), Option.bind_some, show wrap64 ((i : Int) + 1) = ((i + 1 : Nat) : Int) from by rw [zu (by omega) (by omega)]; omega,
        zau l hl k (i + 1) _ (by omega) (by omega) (by simp; omega)]
      rw [List.drop_eq_getElem_cons h1, yx]
      have hr : rd l (i : Int) = l[i] := by
        unfold rd
        simp [List.getD_eq_getElem?_getD, List.getElem?_eq_getElem h1]
      rw [hr]
      simp
    · rw [if_neg (by omega), List.drop_eq_nil_of_le (by omega)]
      simp [yx]
theorem XQ (b l : List Int) (hl : l.length ≤ 1000) (hb : b.length ≤ 100) : xX.f (l.length + 1) b l = some (b ++ yx l) := by
  rw [xX.f]
  have h := zau l hl (l.length + 1) 0 b (by omega) (by omega) (by omega)
  rw [List.drop_zero] at h
  exact h
theorem zde {k : IntKind} {e base : Nat} (W : World) (l : List Int) (hb : base ≤ W.heap.size) (hl : l.length ≤ 100000) : Kd.R (Kd.int k) e (W.alloc (.cells (l.map (Value.int k)).toArray e)) base (fun _ => True) (.slice (some ⟨W.heap.size, 0, none⟩) l.length l.length) l := by
  refine Kd.zbk (enc := Value.int k) (h1 := fun _ => rfl) ?_ (fun _ _ => trivial)
  have h2 := World.ownsRow_lit (base := base) (e := e) (size := 1) W (l.map (Value.int k)).toArray l.length hb (by simp [maxLen]; omega) (by simp)
  simpa [encs] using h2
theorem QD {k : IntKind} {e : Nat} (W : World) (l : List Int) (g : Nat) (hg : g = W.heap.size) (hl : l.length ≤ 100000) : Kd.C (Kd.int k) (W.alloc (.cells (l.map (Value.int k)).toArray e)) (some ⟨g, 0, none⟩) l.length l := by
  have := QI l (ZA W (.cells (l.map (Value.int k)).toArray e) g hg) 0 l.length (by omega) hl
  rwa [List.drop_zero, List.take_length] at this
theorem zck {k : IntKind} {w : World} {g t e base c : Nat} {fr : Nat × Nat} (l : List Int) (h : w.heap[g]? = some (.cells (l.map (Value.int k)).toArray t fr)) (hl : l.length ≤ 100000) (hc : l.length ≤ c) :
    Kd.V (Kd.int k) e w base (fun x => x = g) (.slice (some ⟨g, 0, none⟩) l.length c) l :=
  Kd.zd7 hc (fun W' hW => by
    have := QI l ((hW g rfl (zF h)).trans h) 0 l.length (by omega) hl
    rwa [List.drop_zero, List.take_length] at this)
theorem Qy (w : World) (a v : Int) (ha : 0 ≤ a ∧ a < 256) (hv : 0 ≤ v ∧ v < 65536) (A2 : Option Addr) (c2 : Nat) (A3 : Option Addr) (c3 : Nat) (A13 : Option Addr) (c13 : Nat) :
    Calls Tryz.prog 108 #[.agg (zW 6 0 (.slice A2 0 c2) (.slice A3 0 c3) a v (.slice A13 0 c13))] w fun e w' => ∃ A c, e = .returned (.tuple #[.slice A 5 c, .int .i64 0]) ∧ 5 ≤ c ∧ Kd.F (Kd.int .u8) w' (fun k => w.heap.size ≤ k) A 5 [6, 0, a, v / 256, v % 256] ∧ Below w.heap.size w w' := by
  have hu41 := Tryz.underlying41
  have X2 := hQ (show (w.alloc (.cells (zW 6 0 (.slice A2 0 c2) (.slice A3 0 c3) a v (.slice A13 0 c13)) 41)).heap[w.heap.size]? = some (.cells (zW 6 0 (.slice A2 0 c2) (.slice A3 0 c3) a v (.slice A13 0 c13)) 41 (0, 0)) from zi w _)
  have hR := QC
  have HA := hQ ha
  have HV := hQ hv
  have ew1 : IntKind.u16.wrap a = a := by show a % 65536 = a; omega
  clear ha hv
  simp only [zW] at X2 hR ⊢
  go_enter Tryz.func108, Tryz.ntmps108
  go_wp2_with (fail)
  refine (hR _ a v HA.out HV.out A2 c2 A3 c3 A13 c13).mono ?_
  rintro e w3 ⟨rfl, hb⟩
  have X3 := hQ (zb X2.out hb)
  obtain ⟨x0, x1, x2, x3, x4, x5, x6, x7, x8, x9, x10, x11, x12, x13⟩ := yK X3.out
  obtain ⟨y0, y1, y2, y3, y4, y5, y6, y7, y8, y9, y10, y11, y12, y13⟩ := yK (zg X3.out (.cells #[.int .u8 6] 5))
  have B3 : Below w.heap.size w w3 := ((Below.refl _ _).alloc (Nat.le_refl _) _).trans (hb.mono (by simp))
  have hV := zck (k := .u8) (e := 5) (base := ((w3.alloc (.cells #[.int .u8 6] 5)).alloc (.cells #[.int .u16 a, .int .u16 v] 33)).heap.size) (c := 1) [6] (zg (ZA w3 (.cells #[.int .u8 6] 5) _ rfl) (.cells #[.int .u16 a, .int .u16 v] 33)) (by decide) (by decide)
  have hC := QI (k := .u16) [a, v] (ZA (w3.alloc (.cells #[.int .u8 6] 5)) (.cells #[.int .u16 a, .int .u16 v] 33) (w3.heap.size + 1) (by simp)) 0 2 (by simp) (by simp)
  go_wp2_with (fail)
  refine (xX.calls 3 _ _ 1 [6] _ 2 [a, v] _ _ hV hC (Nat.le_refl _) (XQ [6] [a, v] (by simp) (by simp))).mono ?_
  rintro e w4 ⟨v0, rfl, hV4, hb4⟩
  obtain ⟨A4, c4, hv4, hc4, hF4⟩ := hV4
  have hv4' : v0 = .slice A4 5 c4 := hv4
  have HC := hQ (Kd.qU hF4 (ok' := fun k => w.heap.size ≤ k) (fun k hk => by have := B3.size; rcases hk with h2 | h2 <;> (try simp at h2) <;> omega))
  have HL := hQ hc4
  clear hv4 hF4 hc4
  subst hv4'
  go_wp2_with (fail)
  refine bodyPost_ret (v := .tuple #[.slice A4 5 c4, .int .i64 0]) (by simp [results, Tryz.results108, go_sem]) rfl ⟨_, _, rfl, HL.out, ?_, ((B3.alloc B3.size _).alloc (by simp; have := B3.size; omega) _).trans (hb4.mono (by simp; have := B3.size; omega))⟩
  have e0 : [6] ++ yx [a, v] = [6, 0, a, v / 256, v % 256] := by
    simp only [yx, List.cons_append, List.nil_append]
    have := HA.out
    have := HV.out
    rw [show a / 256 % 256 = 0 by omega, show a % 256 = a by omega, show v / 256 % 256 = v / 256 by omega]
  have := HC.out
  rw [e0] at this
  exact this
open Go.Proofs.YtlalbohhopmpdaaGreat.Tiny
theorem Qg (w : World) (l : List Int) (n : Nat) (hn : l.length = n) (hl : 1 ≤ n ∧ n ≤ 16) (A2 : Option Addr) (c2 : Nat) (A3 : Option Addr) (c3 : Nat) (A13 : Option Addr) (c13 : Nat) (hC : Kd.C (Kd.int .u16) w A3 n l) (hc : n ≤ c3) :
    Calls Tryz.prog 108 #[.agg (zW 3 0 (.slice A2 0 c2) (.slice A3 n c3) 0 0 (.slice A13 0 c13))] w fun e w' => ∃ A c, e = .returned (.tuple #[.slice A (2 + 2 * n) c, .int .i64 0]) ∧ 2 + 2 * n ≤ c ∧ Kd.F (Kd.int .u8) w' (fun k => w.heap.size ≤ k) A (2 + 2 * n) (3 :: 2 * (n : Int) :: yx l) ∧ Below w.heap.size w w' := by
  have hu41 := Tryz.underlying41
  have X2 := hQ (show (w.alloc (.cells (zW 3 0 (.slice A2 0 c2) (.slice A3 n c3) 0 0 (.slice A13 0 c13)) 41)).heap[w.heap.size]? = some (.cells (zW 3 0 (.slice A2 0 c2) (.slice A3 n c3) 0 0 (.slice A13 0 c13)) 41 (0, 0)) from zi w _)
  have hR := fun (w : World) => QA w l (by omega) A2 c2 A3 c3 A13 c13
  rw [hn] at hR
  have HN := hQ hn
  have HL := hQ hl
  have HC := hQ hC
  have HCC := hQ hc
  have hw1 : wrap64 (2 * (n : Int)) = 2 * (n : Int) := zu (by omega) (by omega)
  have hw2 : IntKind.u8.wrap (2 * (n : Int)) = 2 * (n : Int) := by show (2 * (n : Int)) % 256 = _; omega
  clear hn hl hC hc
  simp only [zW] at X2 hR ⊢
  go_enter Tryz.func108, Tryz.ntmps108
  go_wp2_with (fail)
  refine (hR _).mono ?_
  rintro e w3 ⟨rfl, hb⟩
  have X3 := hQ (zb X2.out hb)
  have B3 : Below w.heap.size w w3 := ((Below.refl _ _).alloc (Nat.le_refl _) _).trans (hb.mono (by simp))
  obtain ⟨x0, x1, x2, x3, x4, x5, x6, x7, x8, x9, x10, x11, x12, x13⟩ := yK X3.out
  have X4 := hQ (zg X3.out (.cells #[.int .u8 3] 5))
  obtain ⟨y0, y1, y2, y3, y4, y5, y6, y7, y8, y9, y10, y11, y12, y13⟩ := yK X4.out
  have B4 := hQ (B3.alloc B3.size (.cells #[.int .u8 3] 5))
  have R4 := hQ (zde (k := .u8) (e := 5) w3 [3] B3.size (by decide))
  go_wp2_with (fail)
  clear x0 x1 x2 x3 x4 x5 x6 x7 x8 x9 x10 x11 x12 x13 y0 y1 y2 y3 y4 y5 y6 y7 y8 y9 y10 y11 y12 y13 hb
--WALKB
  refine sq_ (ds := []) #[false, false, false, false, false, false, false, false, false, false, false, false] (fun w' => w'.cell? ⟨w.heap.size, 0, none⟩ = some (.int .i64 3) ∧ w'.cell? ⟨w.heap.size, 1, none⟩ = some (.int .i64 0) ∧ w'.cell? ⟨w.heap.size, 2, none⟩ = some (.slice A2 0 c2) ∧ w'.cell? ⟨w.heap.size, 3, none⟩ = some (.slice A3 n c3) ∧ w'.cell? ⟨w.heap.size, 4, none⟩ = some (.int .i64 0) ∧ w'.cell? ⟨w.heap.size, 5, none⟩ = some (.int .i64 0) ∧ w'.cell? ⟨w.heap.size, 6, none⟩ = some (.int .u16 0) ∧ w'.cell? ⟨w.heap.size, 7, none⟩ = some (.int .u16 0) ∧ w'.cell? ⟨w.heap.size, 8, none⟩ = some (.int .u16 0) ∧ w'.cell? ⟨w.heap.size, 9, none⟩ = some (.int .i64 0) ∧ w'.cell? ⟨w.heap.size, 10, none⟩ = some (.int .i64 0) ∧ w'.cell? ⟨w.heap.size, 11, none⟩ = some (.bool false) ∧ w'.cell? ⟨w.heap.size, 12, none⟩ = some (.int .i64 0) ∧ w'.cell? ⟨w.heap.size, 13, none⟩ = some (.slice A13 0 c13)) ⟨za X4.out 0, za X4.out 1, za X4.out 2, za X4.out 3, za X4.out 4, za X4.out 5, za X4.out 6, za X4.out 7, za X4.out 8, za X4.out 9, za X4.out 10, za X4.out 11, za X4.out 12, za X4.out 13⟩ (fun hHeld => ?_)
  refine pq_ 0 (some 57) ?_
  refine pq_ 1 (some 58) ?_
  refine pq_ 8 (some 65) ?_
  refine tq_ 2 (some 59) hHeld ?_
  refine pq_ 3 (some 60) ?_
  refine pq_ 4 (some 61) ?_
  refine pq_ 5 (some 62) ?_
  refine tq_ 9 (some 66) hHeld ?_
  refine oq_ 6 (some 63) (fun K hK => ?_)
  refine jZ (w1 := ?_) (v := ?_) (by rfl) rfl ?_ ?_
  rotate_left 2
  · go_simp
    constructor
    · rfl
    · rfl
  refine hK.out _ _ ⟨za (zg X4.out _) 0, za (zg X4.out _) 1, za (zg X4.out _) 2, za (zg X4.out _) 3, za (zg X4.out _) 4, za (zg X4.out _) 5, za (zg X4.out _) 6, za (zg X4.out _) 7, za (zg X4.out _) 8, za (zg X4.out _) 9, za (zg X4.out _) 10, za (zg X4.out _) 11, za (zg X4.out _) 12, za (zg X4.out _) 13⟩ (fun hHeld => ?_)
  clear hK K
  refine nq_ ?_
  refine oq_ 7 (some 64) (fun K hK => ?_)
  refine Kd.qA (Kd.int .u8) (w0 := w) w.heap.size (by rfl) (.tmp 57) (.tmp 63) 59 5 (.int .u8 0) 1 rfl Tryz.underlying59 info5 rfl (by decide) (by omega) (.slice (some ⟨w3.heap.size, 0, none⟩) 1 1) [3] [2 * (n : Int)] _ _ _ (fun _ => True) (fun _ => False) rfl rfl (Kd.vg (Kd.qg R4.out _)) (Kd.xe (QD (k := .u8) (w3.alloc (.cells #[.int .u8 3] 5)) [2 * (n : Int)] _ (by simp) (by simp))) (fun _ _ h => h) (fun _ h => h.elim) (fun _ _ => trivial) (zl (B4.out.alloc B4.out.size _)) (by have := (zl (B4.out.alloc B4.out.size (.cells #[.int .u8 (2 * (n : Int))] 5))).size; exact this) (by simp) ?_
  intro v5 w5 ho hb hg hat
  have X5 := hQ (yG (g := w.heap.size) (zn (zg X4.out _)) hg (by have := B3.size; have hlt := zF X3.out; simp [Value.ownBlock]; omega))
  have R5 := hQ ho
  have B5 := hQ hb
  obtain ⟨A5, c5, hv5⟩ := Kd.yc ho
  have hv5' : v5 = .slice A5 2 c5 := hv5
  clear ho hb hg hat hv5
  subst hv5'
  have HP := xX.calls (l.length + 1) _ A5 c5 [3, 2 * (n : Int)] A3 c3 l _ w5 (Kd.R_V (Kd.yX (Kd.xZ R5.out) (ok' := fun k => w.heap.size ≤ k) (fun k hk => hk.2.1))) (by rw [HN.out]; exact Kd.zx HC.out B5.out) (by rw [HN.out]; exact HCC.out) (XQ [3, 2 * (n : Int)] l (by have := HN.out; have := HL.out; omega) (by simp))
  rw [HN.out] at HP
  refine hK.out _ _ ⟨za X5.out 0, za X5.out 1, za X5.out 2, za X5.out 3, za X5.out 4, za X5.out 5, za X5.out 6, za X5.out 7, za X5.out 8, za X5.out 9, za X5.out 10, za X5.out 11, za X5.out 12, za X5.out 13⟩ (fun hHeld => ?_)
  clear hK K
  refine nq_ ?_
  refine oq_ 10 (some 67) (fun K hK => ?_)
  refine yh Tryz.func147 (by kernel_rfl) rfl #[.slice A5 2 c5, .slice A3 n c3] (by rfl) rfl rfl (by (try simp only [List.map_toArray, List.map_cons, List.map_nil]); first | done | rfl) ?_
  refine (HP).mono ?_
  rintro e w6 ⟨v0, rfl, hV, hb⟩
  obtain ⟨A6, c6, hv6, hc6, hF6⟩ := hV
  have HV6 := hQ hv6
  have HC6 := hQ hc6
  have HF6 := hQ (Kd.qU hF6 (ok' := fun k => w.heap.size ≤ k) (fun k hk => hk.elim id (fun h => Nat.le_trans B5.out.size h)))
  clear hv6 hc6 hF6 HP
  refine ⟨_, rfl, ?_⟩
  have B6 := hQ (zf B5.out B5.out.size hb)
  have X6 := hQ (zb X5.out hb)
  clear hb
  refine hK.out _ _ ⟨za X6.out 0, za X6.out 1, za X6.out 2, za X6.out 3, za X6.out 4, za X6.out 5, za X6.out 6, za X6.out 7, za X6.out 8, za X6.out 9, za X6.out 10, za X6.out 11, za X6.out 12, za X6.out 13⟩ (fun hHeld => ?_)
  clear hK K
  refine nq_ ?_
  refine pq_ 11 (some 4) ?_
  refine xJ (by kernel_rfl) ?_
  --ENDB
  have hv6' : v0 = .slice A6 (2 + 2 * n) c6 := by
    rw [HV6.out]
    have := HN.out
    simp [xN]
    omega
  clear HV6
  subst hv6'
  go_wp2
  have hlen : ([3, 2 * (n : Int)] ++ yx l).length = 2 + 2 * n := by
    have := HN.out
    simp [xN]
    omega
  have hC := HC6.out
  have hF := HF6.out
  rw [hlen] at hC hF
  exact bodyPost_ret (v := .tuple #[.slice A6 (2 + 2 * n) c6, .int .i64 0]) (by simp [results, Tryz.results108, go_sem]) rfl ⟨_, _, rfl, hC, hF, B6.out⟩
end Go.Proofs.YtlalbohhopmpdaaGreat.Top
namespace Go.Proofs.YtlalbohhopmpdaaGreat.Top
open Go.RowKit Go.Proofs.YtlalbohhopmpdaaGreat.PTop Go.YW.PrintWords Go.YW.PrintLast Go.YW.PrintMore Go.Proofs.YtlalbohhopmpdaaGreat.Num
def TL : List Nat := [133, 125, 118, 182, 210, 78, 208]
theorem ym.chT {B N : Nat} {w w1 : World} {x : Ix} {g : Sg} {T : List Nat} (h : ym w B N x g) (hc : Ch T [] B w w1) (hT : ∀ t, t ∈ TL → t ∉ T) : ym w1 B N x g :=
  ⟨h.st.ch hc (hT _ (by decide)) (hT _ (by decide)) (by simp), h.en.ch hc (hT _ (by decide)) (hT _ (by decide)) (hT _ (by decide)) (by simp), h.bk.ch hc (hT _ (by decide)) (by simp), h.ss.ch hc (hT _ (by decide)) (by simp), h.ne⟩
structure Loc (B N : Nat) (x : Ix) (g : Sg) (w0 W : World) (b1 b2 : Nat) : Prop where
  slv : ym W B N x g
  ch : Ch TS (MS x) B w0 W
  le : B ≤ w0.heap.size
  t1 : ∃ cs t f, W.heap[b1]? = some (.cells cs t f) ∧ t ∉ TL
  t2 : ∃ cs t f, W.heap[b2]? = some (.cells cs t f) ∧ t ∉ TL
  n1 : w0.heap.size ≤ b1
  n2 : w0.heap.size ≤ b2
theorem VM {W : World} {b b' j : Nat} {v : Value} (h : ∃ cs t f, W.heap[b]? = some (.cells cs t f) ∧ t ∉ TL) : ∃ cs t f, (W.setCell ⟨b', j, none⟩ v).heap[b]? = some (.cells cs t f) ∧ t ∉ TL := by
  obtain ⟨cs, t, f, h1, h2⟩ := h
  by_cases e : b = b'
  · subst e
    have h3 : ∃ cs', (W.setCell ⟨b, j, none⟩ v).heap[b]? = some (.cells cs' t f) := by
      have hlt := zF h1
      have hx := (Array.getElem?_eq_some_iff.1 h1).2
      refine ⟨cs.setIfInBounds j v, ?_⟩
      simp [World.setCell, hlt, Array.getElem_modify, hx]
    obtain ⟨cs', h3⟩ := h3
    exact ⟨cs', t, f, h3, h2⟩
  · exact ⟨cs, t, f, (Below.heap_setCell W ⟨b', j, none⟩ v b e).trans h1, h2⟩
theorem Loc.set {B N : Nat} {x : Ix} {g : Sg} {w0 W : World} {b1 b2 b j : Nat} {v : Value} (h : Loc B N x g w0 W b1 b2) (hb : b = b1 ∨ b = b2) : Loc B N x g w0 (W.setCell ⟨b, j, none⟩ v) b1 b2 := by
  have ht : ∃ cs t f, W.heap[b]? = some (.cells cs t f) ∧ t ∉ TL := hb.elim (fun e => e ▸ h.t1) (fun e => e ▸ h.t2)
  have hn : w0.heap.size ≤ b := hb.elim (fun e => e ▸ h.n1) (fun e => e ▸ h.n2)
  obtain ⟨cs, t, f, h1, h2⟩ := ht
  have hB : B ≤ b := Nat.le_trans h.le hn
  refine ⟨h.slv.chT (Ch.set (T := [t]) (M := []) h1 (by simp) hB (fun m hm => by cases hm) v) (fun q hq hm => by
    rw [List.mem_singleton] at hm
    subst hm
    exact h2 hq), ⟨h.ch.os, h.ch.tape, h.ch.output, ?_, fun i hi => ?_, h.ch.isMap, fun i hi hm ht => ?_⟩, h.le, VM h.t1, VM h.t2, h.n1, h.n2⟩
  · have := h.ch.size
    simpa [World.setCell] using this
  · exact (Below.heap_setCell W ⟨b, j, none⟩ v i (by show i ≠ b; omega)).trans (h.ch.low i hi)
  · exact (Below.heap_setCell W ⟨b, j, none⟩ v i (by show i ≠ b; omega)).trans (h.ch.block i hi hm ht)
theorem Loc.below {B N : Nat} {x : Ix} {g : Sg} {w0 W W1 : World} {b1 b2 : Nat} (h : Loc B N x g w0 W b1 b2) (hb : Below W.heap.size W W1) : Loc B N x g w0 W1 b1 b2 := by
  obtain ⟨c1, t1, f1, e1, n1⟩ := h.t1
  obtain ⟨c2, t2, f2, e2, n2⟩ := h.t2
  exact ⟨h.slv.below hb, h.ch.trans (h.slv.chb hb), h.le, ⟨c1, t1, f1, zb e1 hb, n1⟩, ⟨c2, t2, f2, zb e2 hb, n2⟩, h.n1, h.n2⟩
theorem Loc.step {B N N' : Nat} {x : Ix} {g g' : Sg} {w0 W W1 : World} {b1 b2 : Nat} (h : Loc B N x g w0 W b1 b2) (hs : ym W1 B N' x g') (hc : Ch TS (MS x) B W W1) : Loc B N' x g' w0 W1 b1 b2 := by
  obtain ⟨c1, t1, f1, e1, n1⟩ := h.t1
  obtain ⟨c2, t2, f2, e2, n2⟩ := h.t2
  have hT : ∀ t, t ∉ TL → t ∉ TS := fun t ht h => ht (by simp only [TS, TL, List.mem_cons, List.not_mem_nil, or_false] at h ⊢; rcases h with h | h | h | h | h <;> simp [h])
  exact ⟨hs, h.ch.trans hc, h.le, ⟨c1, t1, f1, hc.cell e1 (hT _ n1), n1⟩, ⟨c2, t2, f2, hc.cell e2 (hT _ n2), n2⟩, h.n1, h.n2⟩
theorem Loc.mk' {B N : Nat} {x : Ix} {g : Sg} {w0 W : World} {b1 b2 t1 t2 : Nat} {c1 c2 : Array Value} {f1 f2 : Nat × Nat} (h0 : ym w0 B N x g) (hb : Below w0.heap.size w0 W) (e1 : W.heap[b1]? = some (.cells c1 t1 f1)) (e2 : W.heap[b2]? = some (.cells c2 t2 f2)) (n1 : w0.heap.size ≤ b1) (n2 : w0.heap.size ≤ b2) (h1 : t1 ∉ TL) (h2 : t2 ∉ TL) : Loc B N x g w0 W b1 b2 :=
  ⟨h0.below hb, h0.chb hb, h0.lt, ⟨c1, t1, f1, e1, h1⟩, ⟨c2, t2, f2, e2, h2⟩, n1, n2⟩
end Go.Proofs.YtlalbohhopmpdaaGreat.Top
namespace Go.Proofs.YtlalbohhopmpdaaGreat.PTop
open Go.RowKit Go.YW.PrintWords Go.YW.PrintLast Go.YW.PrintMore
attribute [local go_sem] yN yO xu xw yP yR xm xq zk zo   -- for this text's walks alone
def qb.l0 : Nat → List (yg) → List Int → Int → Int → Int → Int → Option ((List (yg)))
 | 0, _, _, _, _, _, _ => none
 | k + 1, x5, x11, x12, x13, x328000, x328001 => if x13 < x12 then (if 0 ≤ x13 then (if x13 < (x11.length : Int) then (if x13 < (x5.length : Int) then (qb.l0 k (x5.set (x13 : Int).toNat (⟨(⟨x328000, wrap64 (x328001 + x13)⟩ : YQ), rd x11 x13⟩ : yg)) x11 x12 (wrap64 (x13 + 1)) x328000 x328001) else (none)) else (none)) else (none)) else (some x5)
def qb.f (k : Nat) (a0_0 : Int) (a0_1 : Int) (l1 : List Int) : Option ((List (yg))) := if 0 ≤ (l1.length : Int) then (if ((l1.length : Int) : Int).toNat ≤ 11728124029610 then (qb.l0 k (List.replicate ((l1.length : Int) : Int).toNat z208) l1 (l1.length : Int) 0 a0_0 a0_1) else (none)) else (none)
theorem qb.calls (k : Nat) (a0_0 : Int) (a0_1 : Int) (A1 : Option Addr) (c1 : Nat) (l1 : List Int) (r : List (yg)) (w : World) (hr1 : Kd.C (Kd.int .u16) w A1 l1.length l1) (hc1 : l1.length ≤ c1) (h : qb.f k a0_0 a0_1 l1 = some r) :
  Calls Tryz.prog 77 #[.agg #[.int .i64 a0_0, .int .i64 a0_1], .slice A1 l1.length c1] w fun e w' => ∃ v0_ : Value, e = .returned (v0_) ∧ Kd.R xL 208 w' w.heap.size (fun _ => True) v0_ r ∧ Below w.heap.size w w' := by
 have hu158 := Tryz.underlying158
 have hu208 := Tryz.underlying208
 have HR1 := ze.mk hr1
 have HC1 := ze.mk hc1
 clear hr1 hc1
 have HB := ze.mk (Below.refl w.heap.size w)
 have H : (if 0 ≤ (l1.length : Int) then (if ((l1.length : Int) : Int).toNat ≤ 11728124029610 then (qb.l0 k (List.replicate ((l1.length : Int) : Int).toNat z208) l1 (l1.length : Int) 0 a0_0 a0_1) else (none)) else (none)) = some r := h
 clear h
 by_cases c3 : 0 ≤ (l1.length : Int)
 ·
  rw [if_pos c3] at H
  have c3b0 := eq_true c3
  have c3b1 : decide (0 ≤ (l1.length : Int)) = true := dT c3
  clear c3
  by_cases c4 : ((l1.length : Int) : Int).toNat ≤ 11728124029610
  ·
   rw [if_pos c4] at H
   have c4b0 := eq_true c4
   have c4b1 : decide (((l1.length : Int) : Int).toNat ≤ 11728124029610) = true := dT c4
   clear c4
   obtain ⟨y328, hy328⟩ : ∃ y_ : List (yg), y_ = (List.replicate ((l1.length : Int) : Int).toNat z208) := ⟨_, rfl⟩
   replace H : (qb.l0 k y328 l1 (l1.length : Int) 0 a0_0 a0_1) = some r := by first | (rw [hy328]; with_reducible exact H) | (have H2_ := (Option.bind_some _ _).symm.trans H; rw [hy328]; with_reducible exact H2_) | (have H2_ := (Option.bind_some _ _).symm.trans H; with_reducible exact H2_) | with_reducible exact H | (rw [hy328]; exact H) | exact H
   have Ny328 := ze.mk hy328
   clear hy328
   have H' := ze.mk H
   clear H
   go_enter Tryz.func77, Tryz.ntmps77
   go_wp2_with (first | ((with_reducible refine zN (N := 2) rfl ?_); refine yf ?hg (N := 2) ?hd (cs := #[.int .i64 a0_0, .int .i64 a0_1]) (t := 158) ?hr ?_; (case hd => rfl); (case hg => rfl); (case hr => first | (go_simp; done) | (go_simp; rfl)); intro gb327 hg w5 hbox hb; have BK327 := ze.mk (hbox); have GW327 := ze.mk ((by rw [hg]; exact (zt (HB.out)) : w.heap.size ≤ gb327)); have GE327 := ze.mk ((by rw [hg]; exact (zt (HB.out)) : w.heap.size ≤ gb327)); replace HB := ze.mk (zG (HB.out) hb); clear hb hbox hg) | ((with_reducible refine zN (N := 10) rfl ?_); refine Kd.Qr xL _ 208 rfl (N := 10) rfl 155 _ _ rfl (l1.length : Int) rfl rfl Tryz.underlying155 (.agg #[(.int .i64 0), (.int .i64 0), (.int .u16 0)]) 24 zbR rfl (by decide) (by omega) z208 (ok := fun _ => True) (okp := fun _ => True) (jW _ _ _ z208 ) (fun _ hk => hk) trivial (of_decide_eq_true (by first | (with_reducible assumption) | assumption)) (Nat.le_trans (Nat.mul_le_mul_right _ (of_decide_eq_true (by first | (with_reducible assumption) | assumption) : (l1.length : Int).toNat ≤ 11728124029610)) (by omega)) (Below.refl _ _) (Nat.le_refl _) ?_; intro v329 w6 ho7 hb hg_ hnew_; clear hg_ hnew_; (first | rw [← Ny328.out] at ho7 | (simp only [Int.reduceToNat] at ho7; rw [← Ny328.out] at ho7)); have HO330 := ze.mk (Kd.zU ho7 (zt (HB.out))); replace BK327 := ze.mk (zb BK327.out hb); replace HB := ze.mk (zG (HB.out) hb); clear hb ho7))
   go_loopg [13] k (fun kq v13 w' => ∃ (x5_1 : List (yg)) (x13_1 : Int), v13 = .int .i64 x13_1 ∧ ze (qb.l0 kq x5_1 l1 (l1.length : Int) x13_1 a0_0 a0_1 = some r) ∧ ze (kq ≤ k) ∧ ze (Kd.R xL 208 w' w.heap.size (fun _ => True) v329 x5_1) ∧ ze (w'.heap[gb327]? = some (.cells #[.int .i64 a0_0, .int .i64 a0_1] 158 (0, 0))) ∧ ze (Below w.heap.size w w'))
   case atStart => exact ⟨(y328), (0), (by first | rfl | (simp; done) | (simp [*]; done)), H', ⟨Nat.le_refl _⟩, ⟨HO330.out⟩, ⟨BK327.out⟩, ⟨HB.out⟩⟩
   case round =>
    clear H'
    (try clear c3b0); (try clear c3b1); (try clear c4b0); (try clear c4b1)
    obtain ⟨x5_1, x13_1, rfl, HA, HK1, HO_5, BK327, HB⟩ := hrel
    cases gk with
    | zero => exact absurd HA.out (by simp [qb.l0])
    | succ k1 =>
     have H := HA.out
     clear HA
     simp only [qb.l0] at H
     by_cases c8 : x13_1 < (l1.length : Int)
     ·
      rw [if_pos c8] at H
      have c8b0 : decide (x13_1 < (l1.length : Int)) = true := dT c8
      clear c8
      by_cases c9 : 0 ≤ x13_1
      ·
       rw [if_pos c9] at H
       have c9b0 : decide (0 ≤ x13_1) = true := dT c9
       clear c9
       by_cases c10 : x13_1 < (l1.length : Int)
       ·
        rw [if_pos c10] at H
        have c10b0 : decide (x13_1 < (l1.length : Int)) = true := dT c10
        clear c10
        by_cases c11 : x13_1 < (x5_1.length : Int)
        ·
         rw [if_pos c11] at H
         have c11b0 : decide (x13_1 < (x5_1.length : Int)) = true := dT c11
         clear c11
         obtain ⟨y332, hy332⟩ : ∃ y_ : List (yg), y_ = (x5_1.set (x13_1 : Int).toNat (⟨(⟨a0_0, wrap64 (a0_1 + x13_1)⟩ : YQ), rd l1 x13_1⟩ : yg)) := ⟨_, rfl⟩
         replace H : (qb.l0 k1 y332 l1 (l1.length : Int) (wrap64 (x13_1 + 1)) a0_0 a0_1) = some r := by first | (rw [hy332]; with_reducible exact H) | (have H2_ := (Option.bind_some _ _).symm.trans H; rw [hy332]; with_reducible exact H2_) | (have H2_ := (Option.bind_some _ _).symm.trans H; with_reducible exact H2_) | with_reducible exact H | (rw [hy332]; exact H) | exact H
         have Ny332 := ze.mk hy332
         clear hy332
         have H' := ze.mk H
         clear H
         have p331 : 0 ≤ (x13_1 : Int) := of_decide_eq_true (by first | (with_reducible assumption) | assumption)
         have q331 : x13_1 < (l1.length : Int) := of_decide_eq_true (by first | (with_reducible assumption) | assumption)
         obtain ⟨ad331, e331, hx331_0⟩ := Kd.qH HR1.out x13_1 p331 q331
         cases e331
         replace hx331_0 := (HB.out.cell (World.block_lt_of_cell? w _ hx331_0)).trans hx331_0
         replace p331 := eq_true p331
         replace q331 := eq_true q331
         obtain ⟨hcz13_0, hcz13_1⟩ := XP BK327.out
         obtain ⟨hfz13_0, hfz13_1⟩ := Vu BK327.out
         have p12 : 0 ≤ (x13_1 : Int) := of_decide_eq_true (by first | (with_reducible assumption) | assumption)
         have q12 : (x13_1 : Int) < ((x5_1.length : Int) : Int) := of_decide_eq_true (by first | (with_reducible assumption) | assumption)
         obtain ⟨go12, co12, eo12, gb12, gl12, cl12, HG12⟩ := Kd.qm HO_5.out (by omega)
         (first | cases eo12 | (injection eo12 with ea_ en_ ec_; (first | subst ea_ | (injection ea_ with ea_; subst ea_)); subst ec_; clear en_))
         have GB12 := ze.mk gb12
         have GG12 := ze.mk HG12
         clear gb12 gl12 HG12
         obtain ⟨ce12, hcl12, hM12, hcc12, hfr12⟩ := Kd.Vg HO_5.out z208 (x13_1 : Int) p12 q12
         obtain rfl := Zm hM12
         have hx12_0 : wr.cell? ⟨go12, (x13_1 : Int).toNat * 3, none⟩ = some (.int .i64 ((qy x5_1 x13_1).f0.f0)) := hcc12 0 _ rfl
         have hx12_1 : wr.cell? ⟨go12, (x13_1 : Int).toNat * 3 + 1, none⟩ = some (.int .i64 ((qy x5_1 x13_1).f0.f1)) := hcc12 1 _ rfl
         have hx12_2 : wr.cell? ⟨go12, (x13_1 : Int).toNat * 3 + 2, none⟩ = some (.int .u16 ((qy x5_1 x13_1).f1)) := hcc12 2 _ rfl
         have hf12_0 : wr.frozen? ⟨go12, (x13_1 : Int).toNat * 3, none⟩ = false := hfr12 0
         have hf12_1 : wr.frozen? ⟨go12, (x13_1 : Int).toNat * 3 + 1, none⟩ = false := hfr12 1
         have hf12_2 : wr.frozen? ⟨go12, (x13_1 : Int).toNat * 3 + 2, none⟩ = false := hfr12 2
         clear hcl12 hcc12 hfr12 hM12
         replace p12 := eq_true p12
         replace q12 := eq_true q12
         have HX14 := ze.mk (show Kd.R xL 208 wr w.heap.size (fun _ => True) (.slice (some ⟨go12, 0, none⟩) x5_1.length co12) x5_1 from (HO_5.out))
         obtain ⟨ce14, hcl14, hM14, hcc14, hfr14⟩ := Kd.Vg HX14.out z208 (x13_1 : Int) (of_decide_eq_true (by first | (with_reducible assumption) | assumption)) (by have h_ : (x13_1 : Int) < ((x5_1.length : Int) : Int) := of_decide_eq_true (by first | (with_reducible assumption) | assumption); first | exact h_ | (have e_ := (Kd.zB HO_5.out).1; omega) | simpa using h_)
         obtain rfl := Zm hM14
         have HP14 := Kd.zcA HX14.out (x13_1 : Int) (of_decide_eq_true (by first | (with_reducible assumption) | assumption)) (by have h_ : (x13_1 : Int) < ((x5_1.length : Int) : Int) := of_decide_eq_true (by first | (with_reducible assumption) | assumption); first | exact h_ | (have e_ := (Kd.zB HO_5.out).1; omega) | simpa using h_) (seg := [.int .i64 a0_0, .int .i64 (wrap64 (a0_1 + x13_1)), .int .u16 (rd l1 x13_1)]) (j := 0) hcl14 hcc14 (show 3 ≤ 3 from by decide) (x' := (⟨(⟨a0_0, wrap64 (a0_1 + x13_1)⟩ : YQ), rd l1 x13_1⟩ : yg)) (jW _ _ _ (⟨(⟨a0_0, wrap64 (a0_1 + x13_1)⟩ : YQ), rd l1 x13_1⟩ : yg) ) (fun _ hk => hk)
         have hx14_0 := hcc14 0 _ rfl
         (try simp only [show (xL).sz = 3 from rfl, Nat.mul_one, Nat.add_zero] at hx14_0)
         have hf14_0 := hfr14 0
         (try simp only [show (xL).sz = 3 from rfl, Nat.mul_one, Nat.add_zero] at hf14_0)
         have hx14_1 := hcc14 1 _ rfl
         (try simp only [show (xL).sz = 3 from rfl, Nat.mul_one, Nat.add_zero] at hx14_1)
         have hf14_1 := hfr14 1
         (try simp only [show (xL).sz = 3 from rfl, Nat.mul_one, Nat.add_zero] at hf14_1)
         have hx14_2 := hcc14 2 _ rfl
         (try simp only [show (xL).sz = 3 from rfl, Nat.mul_one, Nat.add_zero] at hx14_2)
         have hf14_2 := hfr14 2
         (try simp only [show (xL).sz = 3 from rfl, Nat.mul_one, Nat.add_zero] at hf14_2)
         clear hcl14 hcc14 hfr14 hM14
         go_wp2_with (first | ((with_reducible refine ZE (t := 208) (p := 29) rfl ?_); refine Jj (t := 208) (p := 29) (v := ?vo_w15) (w1 := (((wr.setCell ⟨go12, (x13_1 : Int).toNat * 3, none⟩ (.int .i64 a0_0)).setCell ⟨go12, (x13_1 : Int).toNat * 3 + 1, none⟩ (.int .i64 (wrap64 (a0_1 + x13_1)))).setCell ⟨go12, (x13_1 : Int).toNat * 3 + 2, none⟩ (.int .u16 (rd l1 x13_1)))) ?hg ?ho ?hn ?hr ?_; (case ho => rfl); (case hg => rfl); (case hn => rfl); (case hr => first | (go_simp; done) | (go_simp; rfl)); intro w15 hw; have hg : wr.grownBy w15 (some go12) := (by rw [hw]; exact HP14.2); have hp_ : Kd.R xL 208 w15 w.heap.size (fun _ => True) (.slice (some ⟨go12, 0, none⟩) x5_1.length co12) y332 := (by rw [hw, Ny332.out]; exact HP14.1); clear HP14; replace BK327 := ze.mk (yG (g := gb327) (o := .cells #[.int .i64 a0_0, .int .i64 a0_1] 158 (0, 0)) (BK327.out) hg (Kd.Qz HO_5.out BK327.out (by decide))); replace HO_5 := ze.mk (hp_); replace HB := ze.mk ((by rw [hw]; exact zM (zM (zM (HB.out) GB12.out) GB12.out) GB12.out : Below w.heap.size w w15)); clear hg hw hp_))
         go_roundg k1
         case measure => have := HK1.out; omega
         case rel => exact ⟨(y332), (wrap64 (x13_1 + 1)), (by first | rfl | (simp; done) | (simp [*]; done)), H', ⟨by have := HK1.out; omega⟩, ⟨HO_5.out⟩, ⟨BK327.out⟩, ⟨HB.out⟩⟩
        ·
         rw [if_neg c11] at H
         exact absurd H (by simp)
       ·
        rw [if_neg c10] at H
        exact absurd H (by simp)
      ·
       rw [if_neg c9] at H
       exact absurd H (by simp)
     ·
      rw [if_neg c8] at H
      have c8b0 : decide (x13_1 < (l1.length : Int)) = false := dF c8
      clear c8
      obtain rfl := Option.some.inj H
      go_wp2
      go_ret
      exact ⟨_, by first | rfl | (simp [zC, zD] <;> rfl) | (simp [*, zC, zD] <;> rfl), by (with_reducible repeat (first | apply Kd.qg | apply Kd.qc | apply Kd.vg)); exact HO_5.out, HB.out⟩
  ·
   rw [if_neg c4] at H
   exact absurd H (by simp)
 ·
  rw [if_neg c3] at H
  exact absurd H (by simp)
end Go.Proofs.YtlalbohhopmpdaaGreat.PTop
namespace Go.Proofs.YtlalbohhopmpdaaGreat.Top
open Go.RowKit Go.Proofs.YtlalbohhopmpdaaGreat.PTop Go.YW.PrintWords Go.YW.PrintLast Go.YW.PrintMore Go.Proofs.YtlalbohhopmpdaaGreat.Num
attribute [local go_sem] zk zo
theorem Yq (w : World) (fn exc : Int) :
    Calls Tryz.prog 106 #[.int .i64 fn, .int .i64 exc] w fun e w' => e = .returned (yu fn exc (.slice none 0 0) 0 0) ∧ Below w.heap.size w w' := by
  have hu41 := Tryz.underlying41
  simp only [yu, zW]
  go_enter Tryz.func106, Tryz.ntmps106
  go_wp2
  refine bodyPost_ret (v := .agg #[.int .i64 fn, .int .i64 exc, .slice none 0 0, .slice none 0 0, .int .i64 0, .int .i64 0, .int .u16 0, .int .u16 0, .int .u16 0, .int .i64 0, .int .i64 0, .bool false, .int .i64 0, .slice none 0 0]) ?_ rfl ⟨rfl, ?_⟩
  · simp [results, Tryz.results106, go_sem, hu41]
  · exact (Below.refl _ _).alloc (Nat.le_refl _) _
theorem zcw : ∃ b, zZ.f 9 6 = some (2, b) := ⟨_, rfl⟩
theorem zd1 (t a v : Int) (h : 0 ≤ a ∧ a < 65536) : qb.f 2 t a [v] = some [⟨⟨t, a⟩, v⟩] := by
  have h0 : wrap64 (a + 0) = a := by rw [Int.add_zero]; exact zu (by omega) (by omega)
  have h1 : qb.f 2 t a [v] = some [⟨⟨t, wrap64 (a + 0)⟩, v⟩] := by kernel_rfl
  rw [h1, h0]
theorem zbL (w : World) (a v : Int) (ha : 0 ≤ a ∧ a < 256) (hv : 0 ≤ v ∧ v < 65536) :
    Calls Tryz.prog 182 #[qF a v, .int .u16 0] w fun e w' => ∃ A c, e = .returned (.slice A 1 c) ∧ Kd.R xL 208 w' w.heap.size (fun _ => True) (.slice A 1 c) [⟨⟨2, a⟩, v⟩] ∧ Below w.heap.size w w' := by
  have hu37 := Tryz.underlying37
  have B1 := hQ (show Below w.heap.size w (w.alloc (.cells (xS a v) 37)) from (Below.refl _ _).alloc (Nat.le_refl _) _)
  have X1 := hQ (zi w (.cells (xS a v) 37 (0, 0)))
  have hR := fun (w : World) => qX w a v ha hv
  have HA := hQ ha
  clear ha hv
  simp only [qF, xS] at B1 X1 hR ⊢
  go_enter Tryz.func182, Tryz.ntmps182
  go_wp2_with (fail)
  refine (hR _).mono ?_
  rintro e w2 ⟨rfl, hb⟩
  have B2 := hQ (zf B1.out B1.out.size hb)
  have X2 := hQ (zb X1.out hb)
  obtain ⟨x0, x1, x2, x3, x4, x5, x6, x7, x8, x9, x10, x11⟩ := zV X2.out
  clear hb
  go_wp2_with (fail)
  refine (zad _).mono ?_
  rintro e w3 ⟨rfl, hd⟩
  have B3 := hQ (zf B2.out B2.out.size hd.below)
  have X3 := hQ (zb X2.out hd.below)
  clear hd x0 x1 x2 x3 x4 x5 x6 x7 x8 x9 x10 x11
  obtain ⟨x0, x1, x2, x3, x4, x5, x6, x7, x8, x9, x10, x11⟩ := zV X3.out
  have X4 := hQ (zg X3.out (.cells #[.int .u16 v] 33))
  have B4 := hQ (B3.out.alloc B3.out.size (.cells #[.int .u16 v] 33))
  have C4 := hQ (QD (k := .u16) (e := 33) w3 [v] _ rfl (by simp))
  obtain ⟨y0, y1, y2, y3, y4, y5, y6, y7, y8, y9, y10, y11⟩ := zV X4.out
  go_wp2_with (fail)
  obtain ⟨tb, ht⟩ := zcw
  refine (zZ.calls 9 6 2 tb _ ht).mono ?_
  rintro e w5 ⟨rfl, hd⟩
  have B5 := hQ (zf B4.out B4.out.size hd.below)
  have X5 := hQ (zb X4.out hd.below)
  have C5 := hQ (Kd.zx C4.out hd.below)
  clear hd x0 x1 x2 x3 x4 x5 x6 x7 x8 x9 x10 x11 y0 y1 y2 y3 y4 y5 y6 y7 y8 y9 y10 y11
  obtain ⟨x0, x1, x2, x3, x4, x5, x6, x7, x8, x9, x10, x11⟩ := zV X5.out
  go_wp2_with (fail)
  refine (qb.calls 2 2 a (some ⟨w3.heap.size, 0, none⟩) 1 [v] _ _ C5.out (Nat.le_refl _) (zd1 2 a v (by have := HA.out; omega))).mono ?_
  rintro e w6 ⟨v0, rfl, hr, hb⟩
  have B6 := hQ (zf B5.out B5.out.size hb)
  have R6 := hQ (Kd.zU hr B5.out.size)
  clear hr hb
  go_wp2
  obtain ⟨A, c, hv0⟩ := Kd.yc R6.out
  have hv0' : v0 = .slice A 1 c := hv0
  subst hv0'
  exact bodyPost_ret (v := .slice A 1 c) (by simp [results, Tryz.results182, go_sem]) rfl ⟨A, c, rfl, R6.out, B6.out⟩
end Go.Proofs.YtlalbohhopmpdaaGreat.Top
