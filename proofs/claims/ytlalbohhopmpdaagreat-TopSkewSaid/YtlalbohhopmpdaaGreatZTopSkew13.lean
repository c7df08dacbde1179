/- Words and walks for TopSkew (made of the session's own texts; each part by itself). -/
import Derived.Deep.DeepCutAuto
import Derived.Deep.DeepMust
import Derived.Deep.RegionLaw
import Derived.RegionTactic
import Derived.ChangeAlike
import Derived.Laws.CopyOwn
import Derived.Outline
import Derived.Lib.Hide
import Derived.WalkSpells
import Derived.Test.YtlalbohhopmpdaaGreatZTopSkew12
set_option maxRecDepth 100000
set_option maxHeartbeats 8000000
set_option linter.unusedVariables false
set_option linter.unusedSimpArgs false
namespace Go.Proofs.YtlalbohhopmpdaaGreat.PTop
open Go.RowKit Go.YW.PrintWords Go.YW.PrintLast Go.YW.PrintMore
attribute [local go_sem] yU yT xE xC xe yZ xJ xK zm zu   -- for this text's walks alone
def jV.f (a0 : Int) : Option (Bool) := if a0 = 1 then (some true) else (if a0 = 2 then (some true) else (if a0 = 3 then (some true) else (if a0 = 4 then (some true) else (if a0 = 6 then (some true) else (some false)))))
theorem jV.calls (a0 : Int) (r : Bool) (w : World) (h : jV.f a0 = some r) :
  Calls Tryz.prog 183 #[.int .i64 a0] w fun e w' => e = .returned (.bool r) ∧ zx w w' := by
 have H : (if a0 = 1 then (some true) else (if a0 = 2 then (some true) else (if a0 = 3 then (some true) else (if a0 = 4 then (some true) else (if a0 = 6 then (some true) else (some false)))))) = some r := h
 clear h
 by_cases c2 : a0 = 1
 ·
  rw [if_pos c2] at H
  have c2b0 : (a0 == 1) = true := beq_iff_eq.mpr c2
  have c2b1 : (a0 != 1) = false := bne_eq_false_iff_eq.mpr c2
  clear c2
  obtain rfl := Option.some.inj H
  go_enter Tryz.func183, Tryz.ntmps183
  go_wp2
  go_ret
  exact ⟨by first | rfl | (simp; done) | (simp [*]; done), by repeat (first | exact zx.refl _ | apply zx.step)⟩
 ·
  rw [if_neg c2] at H
  have c2b0 : (a0 == 1) = false := beq_eq_false_iff_ne.mpr c2
  have c2b1 : (a0 != 1) = true := bne_iff_ne.mpr c2
  by_cases c3 : a0 = 2
  ·
   rw [if_pos c3] at H
   have c3b0 : (a0 == 2) = true := beq_iff_eq.mpr c3
   have c3b1 : (a0 != 2) = false := bne_eq_false_iff_eq.mpr c3
   clear c3
   obtain rfl := Option.some.inj H
   go_enter Tryz.func183, Tryz.ntmps183
   go_wp2
   go_ret
   exact ⟨by first | rfl | (simp; done) | (simp [*]; done), by repeat (first | exact zx.refl _ | apply zx.step)⟩
  ·
   rw [if_neg c3] at H
   have c3b0 : (a0 == 2) = false := beq_eq_false_iff_ne.mpr c3
   have c3b1 : (a0 != 2) = true := bne_iff_ne.mpr c3
   by_cases c4 : a0 = 3
   ·
    rw [if_pos c4] at H
    have c4b0 : (a0 == 3) = true := beq_iff_eq.mpr c4
    have c4b1 : (a0 != 3) = false := bne_eq_false_iff_eq.mpr c4
    clear c4
    obtain rfl := Option.some.inj H
    go_enter Tryz.func183, Tryz.ntmps183
    go_wp2
    go_ret
    exact ⟨by first | rfl | (simp; done) | (simp [*]; done), by repeat (first | exact zx.refl _ | apply zx.step)⟩
   ·
    rw [if_neg c4] at H
    have c4b0 : (a0 == 3) = false := beq_eq_false_iff_ne.mpr c4
    have c4b1 : (a0 != 3) = true := bne_iff_ne.mpr c4
    by_cases c5 : a0 = 4
    ·
     rw [if_pos c5] at H
     have c5b0 : (a0 == 4) = true := beq_iff_eq.mpr c5
     have c5b1 : (a0 != 4) = false := bne_eq_false_iff_eq.mpr c5
     clear c5
     obtain rfl := Option.some.inj H
     go_enter Tryz.func183, Tryz.ntmps183
     go_wp2
     go_ret
     exact ⟨by first | rfl | (simp; done) | (simp [*]; done), by repeat (first | exact zx.refl _ | apply zx.step)⟩
    ·
     rw [if_neg c5] at H
     have c5b0 : (a0 == 4) = false := beq_eq_false_iff_ne.mpr c5
     have c5b1 : (a0 != 4) = true := bne_iff_ne.mpr c5
     by_cases c6 : a0 = 6
     ·
      rw [if_pos c6] at H
      have c6b0 : (a0 == 6) = true := beq_iff_eq.mpr c6
      have c6b1 : (a0 != 6) = false := bne_eq_false_iff_eq.mpr c6
      clear c6
      obtain rfl := Option.some.inj H
      go_enter Tryz.func183, Tryz.ntmps183
      go_wp2
      go_ret
      exact ⟨by first | rfl | (simp; done) | (simp [*]; done), by repeat (first | exact zx.refl _ | apply zx.step)⟩
     ·
      rw [if_neg c6] at H
      have c6b0 : (a0 == 6) = false := beq_eq_false_iff_ne.mpr c6
      have c6b1 : (a0 != 6) = true := bne_iff_ne.mpr c6
      obtain rfl := Option.some.inj H
      go_enter Tryz.func183, Tryz.ntmps183
      go_wp2
      go_ret
      exact ⟨by first | rfl | (simp; done) | (simp [*]; done), by repeat (first | exact zx.refl _ | apply zx.step)⟩
def kZ.f (a0 : Int) : Option (Bool) := if a0 ≥ 0 then (some (decide (a0 ≤ 255))) else (some false)
theorem kZ.calls (a0 : Int) (r : Bool) (w : World) (h : kZ.f a0 = some r) :
  Calls Tryz.prog 184 #[.int .i64 a0] w fun e w' => e = .returned (.bool r) ∧ zx w w' := by
 have H : (if a0 ≥ 0 then (some (decide (a0 ≤ 255))) else (some false)) = some r := h
 clear h
 by_cases c2 : a0 ≥ 0
 ·
  rw [if_pos c2] at H
  have c2b0 : decide (0 ≤ a0) = true := dT c2
  clear c2
  obtain rfl := Option.some.inj H
  go_enter Tryz.func184, Tryz.ntmps184
  go_wp2
  go_ret
  exact ⟨by first | rfl | (simp; done) | (simp [*]; done), by repeat (first | exact zx.refl _ | apply zx.step)⟩
 ·
  rw [if_neg c2] at H
  have c2b0 : decide (0 ≤ a0) = false := dF c2
  clear c2
  obtain rfl := Option.some.inj H
  go_enter Tryz.func184, Tryz.ntmps184
  go_wp2
  go_ret
  exact ⟨by first | rfl | (simp; done) | (simp [*]; done), by repeat (first | exact zx.refl _ | apply zx.step)⟩
def YK.f (a0 : Bool) : Option (Int) := if a0 = true then (some 1) else (some 0)
theorem YK.calls (a0 : Bool) (r : Int) (w : World) (h : YK.f a0 = some r) :
  Calls Tryz.prog 148 #[.bool a0] w fun e w' => e = .returned (.int .i64 r) ∧ zx w w' := by
 have H : (if a0 = true then (some 1) else (some 0)) = some r := h
 clear h
 by_cases c2 : a0 = true
 ·
  subst c2
  have H1 : (some 1) = some r := by rw [if_pos rfl] at H; exact H
  clear H
  have H := H1
  clear H1
  obtain rfl := Option.some.inj H
  go_enter Tryz.func148, Tryz.ntmps148
  go_wp2
  go_ret
  exact ⟨by first | rfl | (simp; done) | (simp [*]; done), by repeat (first | exact zx.refl _ | apply zx.step)⟩
 ·
  replace c2 := Bool.eq_false_iff.mpr c2
  subst c2
  have H1 : (some 0) = some r := by rw [if_neg (show ¬ (false = true) by decide)] at H; exact H
  clear H
  have H := H1
  clear H1
  obtain rfl := Option.some.inj H
  go_enter Tryz.func148, Tryz.ntmps148
  go_wp2
  go_ret
  exact ⟨by first | rfl | (simp; done) | (simp [*]; done), by repeat (first | exact zx.refl _ | apply zx.step)⟩
end Go.Proofs.YtlalbohhopmpdaaGreat.PTop
namespace Go.Proofs.YtlalbohhopmpdaaGreat.Top
open Go.Proofs.YtlalbohhopmpdaaGreat.Tiny
open Go.RowKit Go.Proofs.YtlalbohhopmpdaaGreat.PTop Go.YW.PrintWords Go.YW.PrintLast Go.YW.PrintMore Go.Proofs.YtlalbohhopmpdaaGreat.Num
attribute [local go_sem] zm zu
theorem zam (x0 x1 x2 x3 x4 x5 x6 x7 x8 x9 x10 x11 : Int) (w : World) : (Op.equalIn 10000 274 (.agg #[.int .i64 x0, .int .i64 x1, .int .i64 x2, .int .i64 x3, .int .i64 x4, .int .i64 x5, .int .i64 x6, .int .i64 x7, .int .i64 x8, .int .i64 x9, .int .i64 x10, .int .i64 x11]) (.agg #[.int .i64 x0, .int .i64 x1, .int .i64 x2, .int .i64 x3, .int .i64 x4, .int .i64 x5, .int .i64 x6, .int .i64 x7, .int .i64 x8, .int .i64 x9, .int .i64 x10, .int .i64 x11])).run Tryz.prog w = .ok true w := by
  have h274 := Tryz.underlying274
  rw [show (10000 : Nat) = (9998 + 1) + 1 from rfl]
  have hs : ∀ (w : World), (sizeOf 3).run Tryz.prog w = .ok 1 w := fun w => by kernel_rfl
  rw [Op.equalIn]
  simp only [Sem.run_bind, run_underlying h274, Result.andThen_ok, hs]
  rw [Std.Legacy.Range.forIn_eq_forIn_range']
  rw [show List.range' [:12].start [:12].size [:12].step = [0, 1, 2, 3, 4, 5, 6, 7, 8, 9, 10, 11] from rfl]
  have hp0 : ∀ (w : World), (part 3 #[.int .i64 x0, .int .i64 x1, .int .i64 x2, .int .i64 x3, .int .i64 x4, .int .i64 x5, .int .i64 x6, .int .i64 x7, .int .i64 x8, .int .i64 x9, .int .i64 x10, .int .i64 x11] (0 * 1)).run Tryz.prog w = .ok (.int .i64 x0) w := fun w => by kernel_rfl
  have hp1 : ∀ (w : World), (part 3 #[.int .i64 x0, .int .i64 x1, .int .i64 x2, .int .i64 x3, .int .i64 x4, .int .i64 x5, .int .i64 x6, .int .i64 x7, .int .i64 x8, .int .i64 x9, .int .i64 x10, .int .i64 x11] (1 * 1)).run Tryz.prog w = .ok (.int .i64 x1) w := fun w => by kernel_rfl
  have hp2 : ∀ (w : World), (part 3 #[.int .i64 x0, .int .i64 x1, .int .i64 x2, .int .i64 x3, .int .i64 x4, .int .i64 x5, .int .i64 x6, .int .i64 x7, .int .i64 x8, .int .i64 x9, .int .i64 x10, .int .i64 x11] (2 * 1)).run Tryz.prog w = .ok (.int .i64 x2) w := fun w => by kernel_rfl
  have hp3 : ∀ (w : World), (part 3 #[.int .i64 x0, .int .i64 x1, .int .i64 x2, .int .i64 x3, .int .i64 x4, .int .i64 x5, .int .i64 x6, .int .i64 x7, .int .i64 x8, .int .i64 x9, .int .i64 x10, .int .i64 x11] (3 * 1)).run Tryz.prog w = .ok (.int .i64 x3) w := fun w => by kernel_rfl
  have hp4 : ∀ (w : World), (part 3 #[.int .i64 x0, .int .i64 x1, .int .i64 x2, .int .i64 x3, .int .i64 x4, .int .i64 x5, .int .i64 x6, .int .i64 x7, .int .i64 x8, .int .i64 x9, .int .i64 x10, .int .i64 x11] (4 * 1)).run Tryz.prog w = .ok (.int .i64 x4) w := fun w => by kernel_rfl
  have hp5 : ∀ (w : World), (part 3 #[.int .i64 x0, .int .i64 x1, .int .i64 x2, .int .i64 x3, .int .i64 x4, .int .i64 x5, .int .i64 x6, .int .i64 x7, .int .i64 x8, .int .i64 x9, .int .i64 x10, .int .i64 x11] (5 * 1)).run Tryz.prog w = .ok (.int .i64 x5) w := fun w => by kernel_rfl
  have hp6 : ∀ (w : World), (part 3 #[.int .i64 x0, .int .i64 x1, .int .i64 x2, .int .i64 x3, .int .i64 x4, .int .i64 x5, .int .i64 x6, .int .i64 x7, .int .i64 x8, .int .i64 x9, .int .i64 x10, .int .i64 x11] (6 * 1)).run Tryz.prog w = .ok (.int .i64 x6) w := fun w => by kernel_rfl
  have hp7 : ∀ (w : World), (part 3 #[.int .i64 x0, .int .i64 x1, .int .i64 x2, .int .i64 x3, .int .i64 x4, .int .i64 x5, .int .i64 x6, .int .i64 x7, .int .i64 x8, .int .i64 x9, .int .i64 x10, .int .i64 x11] (7 * 1)).run Tryz.prog w = .ok (.int .i64 x7) w := fun w => by kernel_rfl
  have hp8 : ∀ (w : World), (part 3 #[.int .i64 x0, .int .i64 x1, .int .i64 x2, .int .i64 x3, .int .i64 x4, .int .i64 x5, .int .i64 x6, .int .i64 x7, .int .i64 x8, .int .i64 x9, .int .i64 x10, .int .i64 x11] (8 * 1)).run Tryz.prog w = .ok (.int .i64 x8) w := fun w => by kernel_rfl
  have hp9 : ∀ (w : World), (part 3 #[.int .i64 x0, .int .i64 x1, .int .i64 x2, .int .i64 x3, .int .i64 x4, .int .i64 x5, .int .i64 x6, .int .i64 x7, .int .i64 x8, .int .i64 x9, .int .i64 x10, .int .i64 x11] (9 * 1)).run Tryz.prog w = .ok (.int .i64 x9) w := fun w => by kernel_rfl
  have hp10 : ∀ (w : World), (part 3 #[.int .i64 x0, .int .i64 x1, .int .i64 x2, .int .i64 x3, .int .i64 x4, .int .i64 x5, .int .i64 x6, .int .i64 x7, .int .i64 x8, .int .i64 x9, .int .i64 x10, .int .i64 x11] (10 * 1)).run Tryz.prog w = .ok (.int .i64 x10) w := fun w => by kernel_rfl
  have hp11 : ∀ (w : World), (part 3 #[.int .i64 x0, .int .i64 x1, .int .i64 x2, .int .i64 x3, .int .i64 x4, .int .i64 x5, .int .i64 x6, .int .i64 x7, .int .i64 x8, .int .i64 x9, .int .i64 x10, .int .i64 x11] (11 * 1)).run Tryz.prog w = .ok (.int .i64 x11) w := fun w => by kernel_rfl
  simp only [List.forIn_cons, List.forIn_nil, Sem.run_bind, Result.andThen_ok, Vu, hp0, hp1, hp2, hp3, hp4, hp5, hp6, hp7, hp8, hp9, hp10, hp11, Bool.not_true, Bool.false_eq_true, if_false, Sem.run_pure]
theorem yn {w : World} {g t : Nat} {v0 v1 v2 v3 v4 v5 v6 v7 v8 v9 v10 v11 v12 v13 : Value} (h : w.heap[g]? = some (.cells #[v0, v1, v2, v3, v4, v5, v6, v7, v8, v9, v10, v11, v12, v13] t (0, 0))) :
    w.cell? ⟨g, 0, none⟩ = some v0 ∧ w.cell? ⟨g, 1, none⟩ = some v1 ∧ w.cell? ⟨g, 2, none⟩ = some v2 ∧ w.cell? ⟨g, 3, none⟩ = some v3 ∧ w.cell? ⟨g, 4, none⟩ = some v4 ∧ w.cell? ⟨g, 5, none⟩ = some v5 ∧ w.cell? ⟨g, 6, none⟩ = some v6 ∧ w.cell? ⟨g, 7, none⟩ = some v7 ∧ w.cell? ⟨g, 8, none⟩ = some v8 ∧ w.cell? ⟨g, 9, none⟩ = some v9 ∧ w.cell? ⟨g, 10, none⟩ = some v10 ∧ w.cell? ⟨g, 11, none⟩ = some v11 ∧ w.cell? ⟨g, 12, none⟩ = some v12 ∧ w.cell? ⟨g, 13, none⟩ = some v13 := ⟨za h 0, za h 1, za h 2, za h 3, za h 4, za h 5, za h 6, za h 7, za h 8, za h 9, za h 10, za h 11, za h 12, za h 13⟩
def zI (fn exc : Int) (b w : Value) (at_ v : Int) (o : Value) : Array Value := #[.int .i64 fn, .int .i64 exc, b, w, .int .i64 at_, .int .i64 0, .int .u16 v, .int .u16 0, .int .u16 0, .int .i64 0, .int .i64 0, .bool false, .int .i64 0, o]
def Yz : Array Value := #[.int .i64 0, .int .i64 0, .int .i64 0, .int .i64 0, .int .i64 0, .int .i64 0, .int .i64 0, .int .i64 0, .int .i64 0, .int .i64 0, .int .i64 0, .int .i64 0]
theorem qI (w : World) (fn exc : Int) (A2 : Option Addr) (c2 : Nat) (A3 : Option Addr) (m c3 : Nat) (at_ v : Int) (A13 : Option Addr) (c13 : Nat) (hv : 0 ≤ v ∧ v < 65536) :
    Calls Tryz.prog 185 #[.agg (zI fn exc (.slice A2 0 c2) (.slice A3 m c3) at_ v (.slice A13 0 c13))] w fun e w' => e = .returned (.agg #[.int .i64 at_, .int .i64 0, .int .i64 v, .int .i64 0, .int .i64 0, .int .i64 0, .int .i64 0, .int .i64 0, .int .i64 0, .int .i64 0, .int .i64 (m : Int), .int .i64 0]) ∧ Below w.heap.size w w' := by
  have hu41 := Tryz.underlying41
  have hu274 := Tryz.underlying274
  obtain ⟨W2, hW2⟩ : ∃ W2, W2 = ((w.alloc (.cells (zI fn exc (.slice A2 0 c2) (.slice A3 m c3) at_ v (.slice A13 0 c13)) 41)).alloc (.cells Yz 274)).drew := ⟨_, rfl⟩
  have B2 := hQ (show Below w.heap.size w W2 by rw [hW2]; exact (((Below.refl _ _).alloc (Nat.le_refl _) _).alloc (by simp) _).trans (zk (Below.refl _ _)))
  have X2 := hQ (show W2.heap[w.heap.size]? = some (.cells (zI fn exc (.slice A2 0 c2) (.slice A3 m c3) at_ v (.slice A13 0 c13)) 41 (0, 0)) by rw [hW2]; exact zb (zg (zi w _) _) (zk (Below.refl _ _)))
  have Y2 := hQ (show W2.heap[w.heap.size + 1]? = some (.cells Yz 274 (0, 0)) by
    rw [hW2]
    have h := zi (w.alloc (.cells (zI fn exc (.slice A2 0 c2) (.slice A3 m c3) at_ v (.slice A13 0 c13)) 41)) (.cells Yz 274)
    rw [show (w.alloc (.cells (zI fn exc (.slice A2 0 c2) (.slice A3 m c3) at_ v (.slice A13 0 c13)) 41)).heap.size = w.heap.size + 1 by simp] at h
    exact zb h (zk (Below.refl _ _)))
  rw [hW2] at B2 X2 Y2
  have hw : wrap64 v = v := zA (by omega) (by omega)
  clear hv hW2
  simp only [zI, Yz] at B2 X2 Y2 ⊢
  go_enter Tryz.func185, Tryz.ntmps185
  go_wp2_with (fail)
  refine sq_ (ds := [32]) #[false, false, false, false, false, false, false, false, false, false, false, false, false, false, false, false, false, false, false, false, false, false, false, false, false, false, false, false, false, false, false, false, false] (fun w' => w'.cell? ⟨w.heap.size, 0, none⟩ = some (.int .i64 fn) ∧ w'.cell? ⟨w.heap.size, 1, none⟩ = some (.int .i64 exc) ∧ w'.cell? ⟨w.heap.size, 2, none⟩ = some (.slice A2 0 c2) ∧ w'.cell? ⟨w.heap.size, 3, none⟩ = some (.slice A3 m c3) ∧ w'.cell? ⟨w.heap.size, 4, none⟩ = some (.int .i64 at_) ∧ w'.cell? ⟨w.heap.size, 5, none⟩ = some (.int .i64 0) ∧ w'.cell? ⟨w.heap.size, 6, none⟩ = some (.int .u16 v) ∧ w'.cell? ⟨w.heap.size, 7, none⟩ = some (.int .u16 0) ∧ w'.cell? ⟨w.heap.size, 8, none⟩ = some (.int .u16 0) ∧ w'.cell? ⟨w.heap.size, 9, none⟩ = some (.int .i64 0) ∧ w'.cell? ⟨w.heap.size, 10, none⟩ = some (.int .i64 0) ∧ w'.cell? ⟨w.heap.size, 11, none⟩ = some (.bool false) ∧ w'.cell? ⟨w.heap.size, 12, none⟩ = some (.int .i64 0) ∧ w'.cell? ⟨w.heap.size, 13, none⟩ = some (.slice A13 0 c13)) ⟨za X2.out 0, za X2.out 1, za X2.out 2, za X2.out 3, za X2.out 4, za X2.out 5, za X2.out 6, za X2.out 7, za X2.out 8, za X2.out 9, za X2.out 10, za X2.out 11, za X2.out 12, za X2.out 13⟩ (fun hHeld => ?_)
  refine pq_ 0 (some 3) ?_
  refine pq_ 2 (some 5) ?_
  refine pq_ 4 (some 7) ?_
  refine pq_ 7 (some 10) ?_
  refine pq_ 10 (some 13) ?_
  refine pq_ 13 (some 16) ?_
  refine pq_ 15 (some 18) ?_
  refine pq_ 17 (some 20) ?_
  refine pq_ 20 (some 23) ?_
  refine pq_ 22 (some 25) ?_
  refine pq_ 25 (some 28) ?_
  refine pq_ 28 (some 31) ?_
  refine tq_ 1 (some 4) hHeld ?_
  refine tq_ 3 (some 6) hHeld ?_
  refine tq_ 5 (some 8) hHeld ?_
  refine pq_ 6 (some 9) ?_
  refine tq_ 8 (some 11) hHeld ?_
  refine pq_ 9 (some 12) ?_
  refine tq_ 11 (some 14) hHeld ?_
  refine pq_ 12 (some 15) ?_
  refine tq_ 14 (some 17) hHeld ?_
  refine tq_ 16 (some 19) hHeld ?_
  refine tq_ 18 (some 21) hHeld ?_
  refine tq_ 21 (some 24) hHeld ?_
  refine tq_ 23 (some 26) hHeld ?_
  refine pq_ 24 (some 27) ?_
  refine tq_ 26 (some 29) hHeld ?_
  refine pq_ 27 (some 30) ?_
  refine tq_ 29 (some 32) hHeld ?_
  refine pq_ 30 (some 33) ?_
  refine oq_ 19 (some 22) (fun K hK => ?_)
  refine yo Tryz.func148 (by kernel_rfl) rfl #[.bool false] (by rfl) rfl rfl (by (try simp only [List.map_toArray, List.map_cons, List.map_nil]); first | done | rfl) ?_
  refine (YK.calls false 0 _ rfl).mono ?_
  rintro e w3 ⟨rfl, hd⟩
  refine ⟨_, rfl, ?_⟩
  have B3 := hQ (ze B2.out B2.out.size hd.below)
  have X3 := hQ (zb X2.out hd.below)
  have Y3 := hQ (zb Y2.out hd.below)
  obtain ⟨y0, y1, y2, y3, y4, y5, y6, y7, y8, y9, y10, y11⟩ := zW Y3.out
  have fy : ∀ i, w3.frozen? ⟨w.heap.size + 1, i, none⟩ = false := fun i => zh Y3.out i
  clear hd
  refine hK.out _ _ ⟨za X3.out 0, za X3.out 1, za X3.out 2, za X3.out 3, za X3.out 4, za X3.out 5, za X3.out 6, za X3.out 7, za X3.out 8, za X3.out 9, za X3.out 10, za X3.out 11, za X3.out 12, za X3.out 13⟩ (fun hHeld => ?_)
  clear hK K
  refine nq_ ?_
  refine pq_ 31 (some 34) ?_
  refine kr (i := 32) (N := none) #[true, true, true, true, true, true, true, true, true, true, true, true, true, true, true, true, true, true, true, true, true, true, true, true, true, true, true, true, true, true, true, true, true] rfl rfl (by kernel_rfl) (by decide) (fun K hK => ?_)
  refine jJ (w1 := ?_) (by rfl) rfl ?_ ?_
  rotate_left
  · go_simp
    rfl
  refine hK.out _ _ ?_
  clear hK K
  refine xP (by kernel_rfl) ?_
  --ENDN
  have hw0 : wrap64 0 = 0 := zA (by omega) (by omega)
  go_wp2
  refine bodyPost_ret (v := .agg #[.int .i64 at_, .int .i64 0, .int .i64 v, .int .i64 0, .int .i64 0, .int .i64 0, .int .i64 0, .int .i64 0, .int .i64 0, .int .i64 0, .int .i64 (m : Int), .int .i64 0]) ?_ rfl ⟨rfl, B3.out.trans ?_⟩
  · simp [results, Tryz.results185, go_sem, hu274, y0, y1, y2, y3, y4, y5, y6, y7, y8, y9, y10, y11, hw0]
  · (repeat (with_reducible first | exact Below.refl _ _ | (refine jc ?_ (by omega))))
theorem yx (w : World) (o o2 : Obj) : ((w.alloc o).alloc o2).heap[w.heap.size + 1]? = some o2 := by
  have h := zi (w.alloc o) o2
  rwa [show (w.alloc o).heap.size = w.heap.size + 1 by simp] at h
theorem jR {d : Kd Int} {W : World} {N g j n : Nat} {A : Option Addr} {xs : List Int} {u : Value} (h : Kd.F d W (fun k => N ≤ k) A n xs) (hg : g < N) : Kd.F d (W.setCell ⟨g, j, none⟩ u) (fun k => N ≤ k) A n xs := Kd.zdx h (fun k hk e => by have e2 : k = g := e; omega) u
def zT (fn exc : Int) (w : Value) (at_ v : Int) : Value := .agg (zI fn exc (.slice none 0 0) w at_ v (.slice none 0 0))
def zY : Array Value := #[.int .i64 0, .int .i64 0, .slice none 0 0, .slice none 0 0, .int .i64 0, .int .i64 0, .int .u16 0, .int .u16 0, .int .u16 0, .int .i64 0, .int .i64 0, .bool false, .int .i64 0, .slice none 0 0]
def Yn (k : Int) : Array Value := #[.int .i64 k, .int .i64 0, .slice none 0 0, .slice none 0 0, .int .i64 0, .int .i64 0, .int .u16 0, .int .u16 0, .int .u16 0, .int .i64 0, .int .i64 0, .bool false, .int .i64 0, .slice none 0 0]
theorem vv (w : World) (a v : Int) (ha : 0 ≤ a ∧ a < 256) (hv : 0 ≤ v ∧ v < 65536) :
    Calls Tryz.prog 179 #[qd a v] w fun e w' => e = .returned (zT 6 0 (.slice none 0 0) a v) ∧ Below w.heap.size w w' := by
  have hu41 := Tryz.underlying41
  have hu37 := Tryz.underlying37
  obtain ⟨W2, hW2⟩ : ∃ W2, W2 = (w.alloc (.cells (xB a v) 37)).alloc (.cells zY 41) := ⟨_, rfl⟩
  have B2 := hQ (show Below w.heap.size w W2 by rw [hW2]; exact ((Below.refl _ _).alloc (Nat.le_refl _) _).alloc (by simp) _)
  have X2 := hQ (show W2.heap[w.heap.size]? = some (.cells (xB a v) 37 (0, 0)) by rw [hW2]; exact zg (zi w _) _)
  have Y2 := hQ (show W2.heap[w.heap.size + 1]? = some (.cells zY 41 (0, 0)) by rw [hW2]; exact yx w _ _)
  rw [hW2] at B2 X2 Y2
  have HA := hQ ha
  have HV := hQ hv
  have hR := fun (w : World) => qU w a v ha hv
  clear ha hv hW2
  simp only [zI, zT, qd, xB, zY] at B2 X2 Y2 hR ⊢
  go_enter Tryz.func179, Tryz.ntmps179
  go_wp2_with (fail)
  refine (hR _).mono ?_
  rintro e w3 ⟨rfl, hb⟩
  have B3 := hQ (ze B2.out B2.out.size hb)
  have X3 := hQ (zb X2.out hb)
  have Y3 := hQ (zb Y2.out hb)
  clear hb
  obtain ⟨x0, x1, x2, x3, x4, x5, x6, x7, x8, x9, x10, x11⟩ := zW X3.out
  obtain ⟨y0, y1, y2, y3, y4, y5, y6, y7, y8, y9, y10, y11, y12, y13⟩ := yn Y3.out
  have fy : ∀ i, w3.frozen? ⟨w.heap.size + 1, i, none⟩ = false := fun i => zh Y3.out i
  go_wp2
  refine bodyPost_ret (v := .agg #[.int .i64 6, .int .i64 0, .slice none 0 0, .slice none 0 0, .int .i64 a, .int .i64 0, .int .u16 v, .int .u16 0, .int .u16 0, .int .i64 0, .int .i64 0, .bool false, .int .i64 0, .slice none 0 0]) ?_ rfl ⟨rfl, ?_⟩
  · simp [results, Tryz.results179, go_sem, hu41, y0, y1, y2, y3, y4, y5, y6, y7, y8, y9, y10, y11, y12, y13]
  · refine B3.out.trans ?_
    (repeat (with_reducible first | exact Below.refl _ _ | (refine jc ?_ (by omega))))
theorem Jw (w : World) (a n : Int) (ha : 0 ≤ a ∧ a < 256) (hn : 1 ≤ n ∧ n ≤ 16) :
    Calls Tryz.prog 179 #[jf a n] w fun e w' => e = .returned (zT 0 0 (.slice none 0 0) 0 0) ∧ Below w.heap.size w w' := by
  have hu41 := Tryz.underlying41
  have hu37 := Tryz.underlying37
  obtain ⟨W2, hW2⟩ : ∃ W2, W2 = (w.alloc (.cells (qy a n) 37)).alloc (.cells zY 41) := ⟨_, rfl⟩
  have B2 := hQ (show Below w.heap.size w W2 by rw [hW2]; exact ((Below.refl _ _).alloc (Nat.le_refl _) _).alloc (by simp) _)
  have X2 := hQ (show W2.heap[w.heap.size]? = some (.cells (qy a n) 37 (0, 0)) by rw [hW2]; exact zg (zi w _) _)
  have Y2 := hQ (show W2.heap[w.heap.size + 1]? = some (.cells zY 41 (0, 0)) by rw [hW2]; exact yx w _ _)
  rw [hW2] at B2 X2 Y2
  have hR := fun (w : World) => jC w a n ha (by omega)
  clear ha hn hW2
  simp only [zI, zT, jf, qy, zY] at B2 X2 Y2 hR ⊢
  go_enter Tryz.func179, Tryz.ntmps179
  go_wp2_with (fail)
  refine (hR _).mono ?_
  rintro e w3 ⟨rfl, hb⟩
  have B3 := hQ (ze B2.out B2.out.size hb)
  have X3 := hQ (zb X2.out hb)
  have Y3 := hQ (zb Y2.out hb)
  clear hb
  obtain ⟨x0, x1, x2, x3, x4, x5, x6, x7, x8, x9, x10, x11⟩ := zW X3.out
  obtain ⟨y0, y1, y2, y3, y4, y5, y6, y7, y8, y9, y10, y11, y12, y13⟩ := yn Y3.out
  have fy : ∀ i, w3.frozen? ⟨w.heap.size + 1, i, none⟩ = false := fun i => zh Y3.out i
  go_wp2
  refine bodyPost_ret (v := .agg #[.int .i64 0, .int .i64 0, .slice none 0 0, .slice none 0 0, .int .i64 0, .int .i64 0, .int .u16 0, .int .u16 0, .int .u16 0, .int .i64 0, .int .i64 0, .bool false, .int .i64 0, .slice none 0 0]) ?_ rfl ⟨rfl, ?_⟩
  · simp [results, Tryz.results179, go_sem, hu41, y0, y1, y2, y3, y4, y5, y6, y7, y8, y9, y10, y11, y12, y13]
  · refine B3.out.trans ?_
    (repeat (with_reducible first | exact Below.refl _ _ | (refine jc ?_ (by omega))))
theorem Yl (w : World) (A0 : Option Addr) (c0 : Nat) (l : List Int) (n : Nat) (hn : l.length = n) (hr0 : Kd.C (Kd.int .u16) w A0 n l) (hc0 : n ≤ c0) (hlt : n ≤ 100000) :
    Calls Tryz.prog 175 #[.int .i64 3, .slice A0 n c0] w fun e w' => ∃ A c, e = .returned (zT 3 0 (.slice A n c) 0 0) ∧ Kd.F (Kd.int .u16) w' (fun k => w.heap.size ≤ k) A n l ∧ n ≤ c ∧ Below w.heap.size w w' := by
  subst hn
  have hu41 := Tryz.underlying41
  obtain ⟨W2, hW2⟩ : ∃ W2, W2 = (w.alloc (.cells zY 41)).alloc (.cells (Yn 3) 41) := ⟨_, rfl⟩
  have B2 := hQ (show Below w.heap.size w W2 by rw [hW2]; exact ((Below.refl _ _).alloc (Nat.le_refl _) _).alloc (by simp) _)
  have X2 := hQ (show W2.heap[w.heap.size]? = some (.cells zY 41 (0, 0)) by rw [hW2]; exact zg (zi w _) _)
  have Y2 := hQ (show W2.heap[w.heap.size + 1]? = some (.cells (Yn 3) 41 (0, 0)) by rw [hW2]; exact yx w _ _)
  have C2 := hQ (Kd.zz hr0 (B2.out))
  rw [hW2] at B2 X2 Y2 C2
  have HC := hQ hc0
  have HL := hQ hlt
  clear hr0 hc0 hlt hW2
  simp only [zI, zT, zY, Yn] at B2 X2 Y2 C2 ⊢
  go_enter Tryz.func175, Tryz.ntmps175
  go_wp2_with (fail)
  refine (zaw A0 c0 l _ C2.out HC.out HL.out).mono ?_
  rintro e w3 ⟨A3, c3, rfl, hr, hb⟩
  have B3 := hQ (ze B2.out B2.out.size hb)
  have X3 := hQ (zb X2.out hb)
  have Y3 := hQ (zb Y2.out hb)
  have R3 := hQ (Kd.zw hr)
  have F3 := hQ (Kd.qx (Kd.R_F (Kd.xW hr)) (ok' := fun k => w.heap.size + 2 ≤ k) (fun k hk => by have := hk.2.1; simp at this; omega))
  clear hb hr
  obtain ⟨x0, x1, x2, x3, x4, x5, x6, x7, x8, x9, x10, x11, x12, x13⟩ := yn X3.out
  obtain ⟨y0, y1, y2, y3, y4, y5, y6, y7, y8, y9, y10, y11, y12, y13⟩ := yn Y3.out
  have fy : ∀ i, w3.frozen? ⟨w.heap.size + 1, i, none⟩ = false := fun i => zh Y3.out i
  have fx : ∀ i, w3.frozen? ⟨w.heap.size, i, none⟩ = false := fun i => zh X3.out i
  go_wp2
  refine bodyPost_ret (v := .agg #[.int .i64 3, .int .i64 0, .slice none 0 0, .slice A3 l.length c3, .int .i64 0, .int .i64 0, .int .u16 0, .int .u16 0, .int .u16 0, .int .i64 0, .int .i64 0, .bool false, .int .i64 0, .slice none 0 0]) ?_ rfl ⟨A3, c3, rfl, ?_, R3.out.2.1, ?_⟩
  · simp [results, Tryz.results175, go_sem, hu41, x0, x1, x2, x3, x4, x5, x6, x7, x8, x9, x10, x11, x12, x13]
  · refine Kd.qx (ok := fun k => w.heap.size + 2 ≤ k) ?_ (fun k hk => by omega)
    repeat (with_reducible first | exact F3.out | (refine jR ?_ (by omega)))
  · refine B3.out.trans ?_
    (repeat (with_reducible first | exact Below.refl _ _ | (refine jc ?_ (by omega))))
end Go.Proofs.YtlalbohhopmpdaaGreat.Top
namespace Go.Proofs.YtlalbohhopmpdaaGreat.PTop
open Go.RowKit Go.YW.PrintWords Go.YW.PrintLast Go.YW.PrintMore
attribute [local go_sem] yU yT xE xC xe yZ xJ xK zm zu   -- for this text's walks alone
def jv.f (a0 : Int) (a1 : Int) : Option (Bool) := if a0 ≥ 1 then (some (decide (a0 ≤ a1))) else (some false)
theorem jv.calls (a0 : Int) (a1 : Int) (r : Bool) (w : World) (h : jv.f a0 a1 = some r) :
  Calls Tryz.prog 187 #[.int .i64 a0, .int .i64 a1] w fun e w' => e = .returned (.bool r) ∧ zx w w' := by
 have H : (if a0 ≥ 1 then (some (decide (a0 ≤ a1))) else (some false)) = some r := h
 clear h
 by_cases c3 : a0 ≥ 1
 ·
  rw [if_pos c3] at H
  have c3b0 : decide (1 ≤ a0) = true := dT c3
  clear c3
  obtain rfl := Option.some.inj H
  go_enter Tryz.func187, Tryz.ntmps187
  go_wp2
  go_ret
  exact ⟨by first | rfl | (simp; done) | (simp [*]; done), by repeat (first | exact zx.refl _ | apply zx.step)⟩
 ·
  rw [if_neg c3] at H
  have c3b0 : decide (1 ≤ a0) = false := dF c3
  clear c3
  obtain rfl := Option.some.inj H
  go_enter Tryz.func187, Tryz.ntmps187
  go_wp2
  go_ret
  exact ⟨by first | rfl | (simp; done) | (simp [*]; done), by repeat (first | exact zx.refl _ | apply zx.step)⟩
def kH.f (a0 : Int) (a1 : Int) (a2 : Bool) : Option (Int) := if a2 = true then (some (IntKind.u64.wrap (wrap64 (16 * a0)))) else (some (IntKind.u64.wrap (wrap64 (16 * (wrap64 ((wrap64 (a1 - 1)) - a0))))))
theorem kH.calls (a0 : Int) (a1 : Int) (a2 : Bool) (r : Int) (w : World) (h : kH.f a0 a1 a2 = some r) :
  Calls Tryz.prog 239 #[.int .i64 a0, .int .i64 a1, .bool a2] w fun e w' => e = .returned (.int .u64 r) ∧ zx w w' := by
 have H : (if a2 = true then (some (IntKind.u64.wrap (wrap64 (16 * a0)))) else (some (IntKind.u64.wrap (wrap64 (16 * (wrap64 ((wrap64 (a1 - 1)) - a0))))))) = some r := h
 clear h
 by_cases c4 : a2 = true
 ·
  subst c4
  have H1 : (some (IntKind.u64.wrap (wrap64 (16 * a0)))) = some r := by rw [if_pos rfl] at H; exact H
  clear H
  have H := H1
  clear H1
  obtain rfl := Option.some.inj H
  go_enter Tryz.func239, Tryz.ntmps239
  go_wp2
  go_ret
  exact ⟨by first | rfl | (simp; done) | (simp [*]; done), by repeat (first | exact zx.refl _ | apply zx.step)⟩
 ·
  replace c4 := Bool.eq_false_iff.mpr c4
  subst c4
  have H1 : (some (IntKind.u64.wrap (wrap64 (16 * (wrap64 ((wrap64 (a1 - 1)) - a0)))))) = some r := by rw [if_neg (show ¬ (false = true) by decide)] at H; exact H
  clear H
  have H := H1
  clear H1
  obtain rfl := Option.some.inj H
  go_enter Tryz.func239, Tryz.ntmps239
  go_wp2
  go_ret
  exact ⟨by first | rfl | (simp; done) | (simp [*]; done), by repeat (first | exact zx.refl _ | apply zx.step)⟩
mutual
def yc.j0 : Nat → Int → Int → Bool → Bool → Option (List Int × Bool)
 | 0, _, _, _, _ => none
 | k + 1, x0, x1, x2, x27 => if x27 = true then (some (([] : List Int), false)) else (if 0 ≤ x1 then (if (x1 : Int).toNat ≤ 140737488355328 then ((some (List.replicate (x1 : Int).toNat 0 : List Int)).bind fun y260 => (yc.l0 k x0 x1 x2 y260 (y260.length : Int) 0)) else (none)) else (none))
def yc.l0 : Nat → Int → Int → Bool → List Int → Int → Int → Option (List Int × Bool)
 | 0, _, _, _, _, _, _ => none
 | k + 1, x0, x1, x2, x8, x31, x32 => if x32 < x31 then ((kH.f x32 x1 x2).bind fun t263 => (if 0 ≤ t263 then (if 0 ≤ x32 then (if x32 < (x8.length : Int) then (yc.l0 k x0 x1 x2 (x8.set (x32 : Int).toNat (IntKind.u16.wrap (shr .u64 x0 t263))) x31 (wrap64 (x32 + 1))) else (none)) else (none)) else (none))) else (some (x8, true))
end
def yc.f (k : Nat) (a0 : Int) (a1 : Int) (a2 : Bool) : Option (List Int × Bool) := if a1 < 1 then (yc.j0 k a0 a1 a2 true) else (if a1 > 4 then (yc.j0 k a0 a1 a2 true) else (if a1 < 4 then (if 0 ≤ (IntKind.u64.wrap (wrap64 (16 * a1))) then (yc.j0 k a0 a1 a2 ((shr .u64 a0 (IntKind.u64.wrap (wrap64 (16 * a1)))) != 0)) else (none)) else (yc.j0 k a0 a1 a2 false)))
theorem yc.calls (k : Nat) (a0 : Int) (a1 : Int) (a2 : Bool) (r1 : List Int) (r2 : Bool) (w : World) (h : yc.f k a0 a1 a2 = some (r1, r2)) :
  Calls Tryz.prog 227 #[.int .u64 a0, .int .i64 a1, .bool a2] w fun e w' => ∃ v0_ : Value, e = .returned (.tuple #[v0_, .bool r2]) ∧ Kd.R (Kd.int .u16) 33 w' w.heap.size (fun _ => True) v0_ r1 ∧ Below w.heap.size w w' := by
 have HB := zf.mk (Below.refl w.heap.size w)
 have H : (if a1 < 1 then (yc.j0 k a0 a1 a2 true) else (if a1 > 4 then (yc.j0 k a0 a1 a2 true) else (if a1 < 4 then (if 0 ≤ (IntKind.u64.wrap (wrap64 (16 * a1))) then (yc.j0 k a0 a1 a2 ((shr .u64 a0 (IntKind.u64.wrap (wrap64 (16 * a1)))) != 0)) else (none)) else (yc.j0 k a0 a1 a2 false)))) = some (r1, r2) := h
 clear h
 have HC4 := zf.mk H
 clear H
 go_enter Tryz.func227, Tryz.ntmps227
 go_upto_region 1 with (fail)
 go_cut [27] (fun v27 wc => ∃ (kq : Nat) (x27_3 : Bool), v27 = .bool x27_3 ∧ zf (yc.j0 kq a0 a1 a2 x27_3 = some (r1, r2)) ∧ zf (kq ≤ k) ∧ zf (Below w.heap.size w wc))
 case first =>
  have H := HC4.out
  clear HC4
  by_cases c5 : a1 < 1
  ·
   rw [if_pos c5] at H
   have c5b0 : decide (a1 < 1) = true := dT c5
   clear c5
   (first | rw [c5b0] | (simp only [yX, xN]; rw [c5b0]) | skip)
   have H' := zf.mk H
   clear H
   go_wp2
   go_meet
   case rel => exact ⟨_, (true), (by first | rfl | (simp; done) | (simp [*]; done)), H', ⟨by first | omega | exact Nat.le_refl _⟩, ⟨HB.out⟩⟩
  ·
   rw [if_neg c5] at H
   have c5b0 : decide (a1 < 1) = false := dF c5
   clear c5
   (first | rw [c5b0] | (simp only [yX, xN]; rw [c5b0]) | skip)
   by_cases c6 : a1 > 4
   ·
    rw [if_pos c6] at H
    have c6b0 : decide (4 < a1) = true := dT c6
    clear c6
    have H' := zf.mk H
    clear H
    go_wp2
    go_meet
    case rel => exact ⟨_, (true), (by first | rfl | (simp; done) | (simp [*]; done)), H', ⟨by first | omega | exact Nat.le_refl _⟩, ⟨HB.out⟩⟩
   ·
    rw [if_neg c6] at H
    have c6b0 : decide (4 < a1) = false := dF c6
    clear c6
    by_cases c7 : a1 < 4
    ·
     rw [if_pos c7] at H
     have c7b0 : decide (a1 < 4) = true := dT c7
     clear c7
     obtain ⟨ji8, hji8⟩ : ∃ j_ : Int, (IntKind.u64.wrap (wrap64 (16 * a1))) = j_ := ⟨_, rfl⟩
     replace H : (if 0 ≤ (ji8) then (yc.j0 k a0 a1 a2 ((shr .u64 a0 (ji8)) != 0)) else (none)) = some (r1, r2) := by first | (rw [hji8] at H; exact H) | (simp only [hji8] at H ⊢; exact H)
     by_cases c9 : 0 ≤ (ji8)
     ·
      rw [if_pos c9] at H
      have c9b0 := eq_true c9
      have c9b1 : decide (0 ≤ (ji8)) = true := dT c9
      clear c9
      obtain ⟨ji10, hji10⟩ : ∃ j_ : Int, (shr .u64 a0 (ji8)) = j_ := ⟨_, rfl⟩
      replace H : (yc.j0 k a0 a1 a2 ((ji10) != 0)) = some (r1, r2) := by first | (rw [hji10] at H; exact H) | (simp only [hji10] at H ⊢; exact H)
      have hji10_ : (a0 / 2 ^ min (ji8).toNat 64) = ji10 := hji10
      have hji10z : (ji8) ≤ 64 → (a0 / 2 ^ (ji8).toNat) = ji10 := XA hji10
      have H' := zf.mk H
      clear H
      go_wp2
      go_meet
      case rel => exact ⟨_, (((ji10) != 0)), (by first | rfl | (simp; done) | (simp only [← hji10] <;> (first | rfl | simp)) | (simp [*]; done)), H', ⟨by first | omega | exact Nat.le_refl _⟩, ⟨HB.out⟩⟩
     ·
      rw [if_neg c9] at H
      exact absurd H (by simp)
    ·
     rw [if_neg c7] at H
     have c7b0 : decide (a1 < 4) = false := dF c7
     clear c7
     have H' := zf.mk H
     clear H
     go_wp2
     go_meet
     case rel => exact ⟨_, (false), (by first | rfl | (simp; done) | (simp [*]; done)), H', ⟨by first | omega | exact Nat.le_refl _⟩, ⟨HB.out⟩⟩
 case rest =>
  clear HC4
  obtain ⟨kq, x27_3, rfl, HA, HJ3, HB⟩ := hcut
  cases kq with
  | zero => exact absurd HA.out (by simp [yc.j0])
  | succ kj3 =>
   have H := HA.out
   clear HA
   simp only [yc.j0] at H
   by_cases c11 : x27_3 = true
   ·
    subst c11
    have H1 : (some (([] : List Int), false)) = some (r1, r2) := by rw [if_pos rfl] at H; exact H
    clear H
    have H := H1
    clear H1
    simp only [Option.some.injEq, Prod.mk.injEq] at H
    obtain ⟨rfl, rfl⟩ := H
    go_wp2
    go_ret2
    exact ⟨_, by first | rfl | (simp [zD, zC] <;> rfl) | (simp [*, zD, zC] <;> rfl), by first | exact Kd.xM _ _ _ _ _ | exact Kd.N_nil _ _ _ _ _ | exact Kd.V_nil _ _ _ _ _ | exact Kd.Q_nil _ _ _ _ _ | exact Kd.S_nil _ _ _ _ _, HB.out⟩
   ·
    replace c11 := Bool.eq_false_iff.mpr c11
    subst c11
    have H1 : (if 0 ≤ a1 then (if (a1 : Int).toNat ≤ 140737488355328 then ((some (List.replicate (a1 : Int).toNat 0 : List Int)).bind fun y260 => (yc.l0 kj3 a0 a1 a2 y260 (y260.length : Int) 0)) else (none)) else (none)) = some (r1, r2) := by rw [if_neg (show ¬ (false = true) by decide)] at H; exact H
    clear H
    have H := H1
    clear H1
    by_cases c12 : 0 ≤ a1
    ·
     rw [if_pos c12] at H
     have c12b0 := eq_true c12
     have c12b1 : decide (0 ≤ a1) = true := dT c12
     clear c12
     by_cases c13 : (a1 : Int).toNat ≤ 140737488355328
     ·
      rw [if_pos c13] at H
      have c13b0 := eq_true c13
      have c13b1 : decide ((a1 : Int).toNat ≤ 140737488355328) = true := dT c13
      clear c13
      obtain ⟨y260, hy260⟩ : ∃ y_ : List Int, y_ = (List.replicate (a1 : Int).toNat 0) := ⟨_, rfl⟩
      replace H : (yc.l0 kj3 a0 a1 a2 y260 (y260.length : Int) 0) = some (r1, r2) := by first | (rw [hy260]; with_reducible exact H) | (have H2_ := (Option.bind_some _ _).symm.trans H; rw [hy260]; with_reducible exact H2_) | (have H2_ := (Option.bind_some _ _).symm.trans H; with_reducible exact H2_) | with_reducible exact H | (rw [hy260]; exact H) | exact H
      have Ny260 := zf.mk hy260
      clear hy260
      have H' := zf.mk H
      clear H
      go_wp2_with (first | ((with_reducible refine zS (N := 29) rfl ?_); refine Kd.Qr (Kd.int .u16) _ 33 rfl (N := 29) rfl 35 _ _ rfl a1 rfl rfl Tryz.underlying35 (.int .u16 0) 2 Kg rfl (by decide) (by omega) 0 (ok := fun _ => True) (okp := fun _ => True) rfl (fun _ hk => hk) trivial (of_decide_eq_true (by first | (with_reducible assumption) | assumption)) (Nat.le_trans (Nat.mul_le_mul_right _ (of_decide_eq_true (by first | (with_reducible assumption) | assumption) : a1.toNat ≤ 140737488355328)) (by omega)) (Below.refl _ _) (Nat.le_refl _) ?_; intro v261 w14 ho15 hb hg_ hnew_; clear hg_ hnew_; (first | rw [← Ny260.out] at ho15 | (simp only [Int.reduceToNat] at ho15; rw [← Ny260.out] at ho15)); have HO262 := zf.mk (Kd.zU ho15 (zq (HB.out))); replace HB := zf.mk (zH (HB.out) hb); clear hb ho15; obtain ⟨Ao16, co16, eo16⟩ := Kd.zX HO262.out; subst eo16))
      go_loopg [32] kj3 (fun kq v32 w' => ∃ (x8_2 : List Int) (x32_2 : Int), v32 = .int .i64 x32_2 ∧ zf (yc.l0 kq a0 a1 a2 x8_2 (y260.length : Int) x32_2 = some (r1, r2)) ∧ zf (kq ≤ kj3) ∧ zf (Kd.R (Kd.int .u16) 33 w' w.heap.size (fun _ => True) (.slice Ao16 y260.length co16) x8_2) ∧ zf (Below w.heap.size w w'))
      case atStart => exact ⟨(y260), (0), (by first | rfl | (simp; done) | (simp [*]; done)), H', ⟨Nat.le_refl _⟩, ⟨HO262.out⟩, ⟨HB.out⟩⟩
      case round =>
       clear H'
       (try clear c12b0); (try clear c12b1); (try clear c13b0); (try clear c13b1)
       obtain ⟨x8_2, x32_2, rfl, HA, HK2, HO_8, HB⟩ := hrel
       have hl8_2 := (Kd.zw HO_8.out).1
       rw [hl8_2] at HO_8
       (try simp only [hl8_2])
       cases gk with
       | zero => exact absurd HA.out (by simp [yc.l0])
       | succ k2 =>
        have H := HA.out
        clear HA
        simp only [yc.l0] at H
        by_cases c17 : x32_2 < (y260.length : Int)
        ·
         rw [if_pos c17] at H
         have c17b0 : decide (x32_2 < (y260.length : Int)) = true := dT c17
         (try rw [hl8_2] at c17b0)
         clear c17
         replace H := Option.bind_eq_some_iff.mp H
         obtain ⟨t263, A180, H⟩ := H
         have A18 := zf.mk A180
         clear A180
         by_cases c19 : 0 ≤ t263
         ·
          rw [if_pos c19] at H
          have c19b0 := eq_true c19
          have c19b1 : decide (0 ≤ t263) = true := dT c19
          clear c19
          obtain ⟨ji20, hji20⟩ : ∃ j_ : Int, (shr .u64 a0 t263) = j_ := ⟨_, rfl⟩
          replace H : (if 0 ≤ x32_2 then (if x32_2 < (x8_2.length : Int) then (yc.l0 k2 a0 a1 a2 (x8_2.set (x32_2 : Int).toNat (IntKind.u16.wrap (ji20))) (y260.length : Int) (wrap64 (x32_2 + 1))) else (none)) else (none)) = some (r1, r2) := by first | (rw [hji20] at H; exact H) | (simp only [hji20] at H ⊢; exact H)
          (try rw [hji20] at A18)
          have hji20_ : (a0 / 2 ^ min t263.toNat 64) = ji20 := hji20
          have hji20z : t263 ≤ 64 → (a0 / 2 ^ t263.toNat) = ji20 := XA hji20
          by_cases c21 : 0 ≤ x32_2
          ·
           rw [if_pos c21] at H
           have c21b0 : decide (0 ≤ x32_2) = true := dT c21
           clear c21
           by_cases c22 : x32_2 < (x8_2.length : Int)
           ·
            rw [if_pos c22] at H
            have c22b0 : decide (x32_2 < (x8_2.length : Int)) = true := dT c22
            (try rw [hl8_2] at c22b0)
            clear c22
            obtain ⟨y264, hy264⟩ : ∃ y_ : List Int, y_ = (x8_2.set (x32_2 : Int).toNat (IntKind.u16.wrap (ji20))) := ⟨_, rfl⟩
            replace H : (yc.l0 k2 a0 a1 a2 y264 (y260.length : Int) (wrap64 (x32_2 + 1))) = some (r1, r2) := by first | (rw [hy264]; with_reducible exact H) | (have H2_ := (Option.bind_some _ _).symm.trans H; rw [hy264]; with_reducible exact H2_) | (have H2_ := (Option.bind_some _ _).symm.trans H; with_reducible exact H2_) | with_reducible exact H | (rw [hy264]; exact H) | exact H
            have Ny264 := zf.mk hy264
            clear hy264
            have H' := zf.mk H
            clear H
            go_wp2_with (first | ((with_reducible refine yg (f := 239) rfl ?_); refine xI (some 41) rfl rfl Tryz.func239 (by kernel_rfl) rfl #[.int .i64 x32_2, .int .i64 a1, .bool a2] rfl (by (try simp only [List.map_toArray, List.map_cons, List.map_nil]); first | done | rfl | (simp only [List.length_drop, List.length_take]; rfl)) ?_; (with_reducible refine (kH.calls x32_2 a1 a2 t263 _ A18.out).mono ?_); rintro e w' ⟨rfl, ⟨nd, rfl⟩⟩; refine ⟨_, rfl, ?_⟩; (try (rw [qE wr]; generalize hq_ : World.drewN wr _ = wr; replace HO_8 := Kd.dqR HO_8 hq_; replace HB := dqB HB hq_; clear hq_)); have p23 : 0 ≤ (x32_2 : Int) := of_decide_eq_true (by first | (with_reducible assumption) | assumption); have q23 : (x32_2 : Int) < ((x8_2.length : Int) : Int) := of_decide_eq_true (by first | (with_reducible assumption) | assumption); obtain ⟨go23, co23, eo23, gb23, gl23, cl23, HG23⟩ := Kd.xX HO_8.out (by omega); (first | cases eo23 | (injection eo23 with ea_ en_ ec_; (first | subst ea_ | (injection ea_ with ea_; subst ea_)); subst ec_; clear en_)); have GB23 := zf.mk gb23; have GG23 := zf.mk HG23; clear gb23 gl23 HG23; obtain ⟨hx23_0, hf23_0⟩ := Kd.Vo 0 HO_8.out (x32_2 : Int) p23 q23; replace p23 := eq_true p23; replace q23 := eq_true q23; obtain ⟨hy24_, hz24_⟩ := Kd.Vo 0 HO_8.out (x32_2 : Int) (of_decide_eq_true (by first | (with_reducible assumption) | assumption)) (of_decide_eq_true (by first | (with_reducible assumption) | assumption)); have HP24 := Kd.zcO HO_8.out (x32_2 : Int) (IntKind.u16.wrap (ji20))) | ((with_reducible refine Zk (t := 33) (p := 44) rfl ?_); refine Yd (t := 33) (p := 44) (v := ?vo_w25) (w1 := (wr.setCell ⟨go23, (x32_2 : Int).toNat, none⟩ (.int .u16 (IntKind.u16.wrap (ji20))))) ?hg ?ho ?hn ?hr ?_; (case ho => rfl); (case hg => rfl); (case hn => rfl); (case hr => first | (go_simp; done) | (go_simp; rfl)); intro w25 hw; have hg : wr.grownBy w25 (some go23) := (by rw [hw]; exact HP24.2); have hp_ : Kd.R (Kd.int .u16) 33 w25 w.heap.size (fun _ => True) (.slice (some ⟨go23, 0, none⟩) x8_2.length co16) y264 := (by rw [hw, Ny264.out]; exact HP24.1); clear HP24; replace HO_8 := zf.mk (hp_); replace HB := zf.mk ((by rw [hw]; exact zP (HB.out) GB23.out : Below w.heap.size w w25)); clear hg hw hp_))
            (try simp only [← hl8_2])
            go_roundg k2
            case measure => have := HJ3.out; have := HK2.out; omega
            case rel => exact ⟨(y264), (wrap64 (x32_2 + 1)), (by first | rfl | (simp; done) | (simp [*]; done)), H', ⟨by have := HJ3.out; have := HK2.out; omega⟩, ⟨by (try simp only [hl8_2]); (with_reducible repeat (first | apply Kd.xO | apply Kd.xQ | apply Kd.jQ)); exact HO_8.out⟩, ⟨HB.out⟩⟩
           ·
            rw [if_neg c22] at H
            exact absurd H (by simp)
          ·
           rw [if_neg c21] at H
           exact absurd H (by simp)
         ·
          rw [if_neg c19] at H
          exact absurd H (by simp)
        ·
         rw [if_neg c17] at H
         have c17b0 : decide (x32_2 < (y260.length : Int)) = false := dF c17
         (try rw [hl8_2] at c17b0)
         clear c17
         simp only [Option.some.injEq, Prod.mk.injEq] at H
         obtain ⟨rfl, rfl⟩ := H
         go_wp2
         go_ret2
         exact ⟨_, by first | rfl | (simp [zD, zC] <;> rfl) | (simp [*, zD, zC] <;> rfl), by (with_reducible repeat (first | apply Kd.xO | apply Kd.xQ | apply Kd.jQ)); exact HO_8.out, HB.out⟩
     ·
      rw [if_neg c13] at H
      exact absurd H (by simp)
    ·
     rw [if_neg c12] at H
     exact absurd H (by simp)
end Go.Proofs.YtlalbohhopmpdaaGreat.PTop
namespace Go.Proofs.YtlalbohhopmpdaaGreat.Top
open Go.RowKit Go.Proofs.YtlalbohhopmpdaaGreat.PTop Go.YW.PrintWords Go.YW.PrintLast Go.YW.PrintMore Go.Proofs.YtlalbohhopmpdaaGreat.Num
attribute [local go_sem] yU yT xE xC xe yZ xJ xK zm zu
theorem qP (W : World) (o : Obj) (g : Nat) (h : g = W.heap.size) : (W.alloc o).heap[g]? = some o := by subst h; exact zi W o
theorem Yp (k : Nat) (a b c s : Int) (x0 x1 x2 x3 : Int) (ok : Bool) (w : World) (h : yc.f k s 4 false = some ([x0, x1, x2, x3], ok)) :
    Calls Tryz.prog 208 #[.agg #[.int .i64 a, .int .i64 b, .int .i64 c, .int .u64 s]] w fun e w' => e = .returned (.agg #[.int .u16 0, .int .u16 (IntKind.u16.wrap a), .int .u16 (IntKind.u16.wrap b), .int .u16 (IntKind.u16.wrap c), .int .u16 x0, .int .u16 x1, .int .u16 x2, .int .u16 x3]) ∧ Below w.heap.size w w' := by
  have hu189 := Tryz.underlying189
  have hu291 := Tryz.underlying291
  have H := hQ h; clear h
  go_enter Tryz.func208, Tryz.ntmps208
  go_wp2
  go_region
  go_wp2_with (fail)
  refine (yc.calls k s 4 false _ ok _ H.out).mono ?_
  rintro e w1 ⟨v, rfl, hR, hb⟩
  obtain ⟨g, cap, rfl, hg1, hg2, hg3⟩ := Kd.xX hR (by simp)
  have hC := (Kd.zw hR).2.2
  have hcc := (Kd.zw hR).2.1
  have hsrc : ∀ (j : Nat) (v : Value), [Value.int .u16 x0, .int .u16 x1, .int .u16 x2, .int .u16 x3][j]? = some v → w1.cell? ((⟨g, 0, none⟩ : Addr).add j) = some v := by
    obtain ⟨_, _, h3⟩ := hC
    obtain ⟨ad, ea, h4⟩ := h3 (by simp)
    injection ea with ea
    subst ea
    intro j v hj
    have hlt : j < 4 := by
      have := (List.getElem?_eq_some_iff.1 hj).1
      simpa using this
    obtain ⟨c, hc1, hc2, hc3⟩ := h4 j _ (List.getElem?_eq_getElem (by simpa using hlt))
    obtain rfl : c = [Value.int .u16 ([x0, x1, x2, x3][j]'(by simpa using hlt))] := hc2
    have h5 := hc3 0 _ rfl
    rw [show (Kd.int IntKind.u16).sz = 1 from rfl, Nat.mul_one, Nat.add_zero] at h5
    rw [h5, ← hj]
    obtain rfl | rfl | rfl | rfl : j = 0 ∨ j = 1 ∨ j = 2 ∨ j = 3 := by omega
    all_goals rfl
  have b2 := zb (g := w.heap.size + 1 + 1) (o := .cells #[.int .u16 0, .int .u16 (IntKind.u16.wrap a), .int .u16 (IntKind.u16.wrap b), .int .u16 (IntKind.u16.wrap c), .int .u16 0, .int .u16 0, .int .u16 0, .int .u16 0] 291 (0, 0)) (zo (qP _ _ _ (by simp))) hb
  have b1 := zb (g := w.heap.size + 1) (o := .cells #[.int .u16 0, .int .u16 0, .int .u16 0, .int .u16 0, .int .u16 0, .int .u16 0, .int .u16 0, .int .u16 0] 291 (0, 0)) (zo (zg (qP _ _ _ (by simp)) _)) hb
  have hbw : Below w.heap.size w w1 := (zk ((((Below.refl _ _).alloc (Nat.le_refl _) _).alloc (by simp) _).alloc (by simp; omega) _)).trans (hb.mono (by simp; omega))
  have B1 := hQ b1
  have B2 := hQ b2
  have HBW := hQ hbw
  have HS := hQ hsrc
  clear b1 b2 hbw hsrc hC hR hb hg1 hg2 hg3 hcc
  obtain ⟨w2, hcp, c2, c1, hb2⟩ : ∃ w2 : World, (Builtin.copy_ #[35, 35] 3 #[.slice (some ⟨w.heap.size + 1 + 1, 4, none⟩) 4 4, .slice (some ⟨g, 0, none⟩) 4 cap]).run Tryz.prog w1 = .ok (.int .i64 4) w2 ∧
      w2.heap[w.heap.size + 1 + 1]? = some (.cells #[.int .u16 0, .int .u16 (IntKind.u16.wrap a), .int .u16 (IntKind.u16.wrap b), .int .u16 (IntKind.u16.wrap c), .int .u16 x0, .int .u16 x1, .int .u16 x2, .int .u16 x3] 291 (0, 0)) ∧
      w2.heap[w.heap.size + 1]? = some (.cells #[.int .u16 0, .int .u16 0, .int .u16 0, .int .u16 0, .int .u16 0, .int .u16 0, .int .u16 0, .int .u16 0] 291 (0, 0)) ∧ Below w.heap.size w w2 :=
    ⟨_, run_copy_row (P := Tryz.prog) w1 35 35 3 33 (w.heap.size + 1 + 1) 4 4 4 ⟨g, 0, none⟩ 4 cap _ 291 [.int .u16 x0, .int .u16 x1, .int .u16 x2, .int .u16 x3] Tryz.underlying35 (by kernel_rfl) B2.out rfl HS.out (by simp) (by simp [Value.oneCell']),
      setRow_heap _ _ _ _ _ _ B2.out, (setRow_other _ _ _ _ (by omega)).trans B1.out, below_setRow HBW.out (by omega) _⟩
  have hc2_0 := (za c2 0).trans rfl
  have hc2_1 := (za c2 1).trans rfl
  have hc2_2 := (za c2 2).trans rfl
  have hc2_3 := (za c2 3).trans rfl
  have hc2_4 := (za c2 4).trans rfl
  have hc2_5 := (za c2 5).trans rfl
  have hc2_6 := (za c2 6).trans rfl
  have hc2_7 := (za c2 7).trans rfl
  have hc1_0 := (za c1 0).trans rfl
  have hf1_0 := zh c1 0
  have hc1_1 := (za c1 1).trans rfl
  have hf1_1 := zh c1 1
  have hc1_2 := (za c1 2).trans rfl
  have hf1_2 := zh c1 2
  have hc1_3 := (za c1 3).trans rfl
  have hf1_3 := zh c1 3
  have hc1_4 := (za c1 4).trans rfl
  have hf1_4 := zh c1 4
  have hc1_5 := (za c1 5).trans rfl
  have hf1_5 := zh c1 5
  have hc1_6 := (za c1 6).trans rfl
  have hf1_6 := zh c1 6
  have hc1_7 := (za c1 7).trans rfl
  have hf1_7 := zh c1 7
  have HB2 := hQ hb2
  clear c1 c2 hb2 B1 B2 HBW HS
  simp only [List.getElem_toArray, List.getElem_cons_zero, List.getElem_cons_succ] at *
  go_wp2_with (fail)
  exact bodyPost_ret (v := .agg #[.int .u16 0, .int .u16 (IntKind.u16.wrap a), .int .u16 (IntKind.u16.wrap b), .int .u16 (IntKind.u16.wrap c), .int .u16 x0, .int .u16 x1, .int .u16 x2, .int .u16 x3]) (by simp [results, Tryz.results208, go_sem, hc1_0, hc1_1, hc1_2, hc1_3, hc1_4, hc1_5, hc1_6, hc1_7]) rfl ⟨rfl, by (repeat refine zP ?_ (show w.heap.size ≤ w.heap.size + 1 by omega)); exact HB2.out⟩
def slices_Clone.f (l0 : List Int) : Option (List Int) := if l0.length < 70368744177664 then some l0 else none
theorem slices_Clone.calls (A0 : Option Addr) (c0 : Nat) (l0 : List Int) (r : List Int) (w : World) (hr0 : Kd.C (Kd.int .u16) w A0 l0.length l0) (hc0 : l0.length ≤ c0) (h : slices_Clone.f l0 = some r) :
    Calls Tryz.prog 207 #[.slice A0 l0.length c0] w fun e w' => ∃ v0_ : Value, e = .returned (v0_) ∧ Kd.R (Kd.int .u16) 33 w' w.heap.size (fun _ => True) v0_ r ∧ Below w.heap.size w w' := by
  unfold slices_Clone.f at h
  split at h
  · rename_i hlt
    obtain rfl := Option.some.inj h
    clear h
    cases A0 with
    | none =>
      have hl : l0 = [] := by
        rcases Nat.eq_zero_or_pos l0.length with h0 | h0
        · exact List.eq_nil_of_length_eq_zero h0
        · obtain ⟨ad, e, _⟩ := hr0.2.2 h0
          cases e
      subst hl
      have hnil := @Lib.run_eql_slice_nil Tryz.prog
      go_enter Tryz.func207, Tryz.ntmps207
      go_wp2
      go_ret
      exact ⟨_, rfl, Kd.xM _ _ _ _ _, Below.refl _ _⟩
    | some a0 =>
      have hnil := @Lib.run_eql_slice_nil Tryz.prog
      go_enter Tryz.func207, Tryz.ntmps207
      have HR := zf.mk hr0
      have HL := zf.mk hlt
      clear hr0 hlt
      go_wp2_with (first | ((with_reducible refine zS (N := 5) rfl ?_); refine Kd.kU (Kd.int .u16) (w0 := w) w.heap.size 33 ?hg (N := 5) ?hd (xs := ([] : List Int)) (inner := []) (ok := fun _ => True) (okp := fun _ => True) ?hr (yK.none _ _) (fun _ h => h) trivial (Below.refl _ _) (Nat.le_refl _) (by simp) ?_; (case hd => rfl); (case hg => rfl); (case hr => first | (go_simp; done) | (go_simp; rfl)); intro v1 w1 ho hb hg_ _; have HO := zf.mk ho; have HB := zf.mk hb; clear ho hb hg_) | ((with_reducible refine zZ (b := .append) (xs := #[.tmp 5, .tmp 6]) (ts := #[35, 35]) rfl ?_); refine Kd.yA (Kd.int .u16) (w0 := w) w.heap.size rfl (.tmp 5) (.tmp 6) 35 33 (.int .u16 0) 2 rfl Tryz.underlying35 Kg rfl (by decide) (by omega) _ ([] : List Int) l0 _ _ _ (fun _ => True) (fun _ => False) rfl rfl HO.out (Kd.zz HR.out HB.out) (fun _ _ h => h) (fun _ h => h.elim) (fun _ _ => trivial) HB.out HB.out.size ?aL ?_; (case aL => have := HL.out; simp; omega); intro v2 w2 ho hb hg_ _; have HO2 := zf.mk ho; have HB2 := zf.mk hb; clear ho hb hg_))
      go_ret
      exact ⟨_, rfl, by have := HO2.out; simpa using this, HB2.out⟩
  · cases h
theorem ZF {k : IntKind} {w : World} {g t : Nat} {fr : Nat × Nat} (l : List Int) (h : w.heap[g]? = some (.cells (l.map (Value.int k)).toArray t fr)) (f n : Nat) (hf : f + n ≤ l.length) (hl : l.length ≤ 100000) :
    Kd.C (Kd.int k) w (some ⟨g, f, none⟩) n ((l.drop f).take n) := by
  refine ⟨by simp; omega, by omega, fun _ => ⟨_, rfl, fun j p hp => ?_⟩⟩
  have hj : j < n := by
    have := (List.getElem?_eq_some_iff.1 hp).1
    simp at this
    omega
  rw [List.getElem?_take_of_lt hj, List.getElem?_drop] at hp
  refine ⟨[.int k p], rfl, rfl, fun i u hu => ?_⟩
  have hi : i = 0 := by
    have := (List.getElem?_eq_some_iff.1 hu).1
    simp at this
    omega
  subst hi
  simp only [List.getElem?_cons_zero, Option.some.injEq] at hu
  subst hu
  rw [show (Kd.int k).sz = 1 from rfl, Nat.mul_one, Nat.add_zero, show (⟨g, f, none⟩ : Addr).add j = ⟨g, f + j, none⟩ by unfold Addr.add; split <;> simp_all, cell_of_row w g (f + j) _ t fr h]
  simp [hp]
def ZH (a b c : Int) (l : List Int) : List Int := [0, IntKind.u16.wrap a, IntKind.u16.wrap b, IntKind.u16.wrap c] ++ l
def qg.f (k : Nat) (a0_0 a0_1 a0_2 a0_3 a1 a2 : Int) : Option (List Int) := if a1 < 0 then some [] else if a2 > 8 then some [] else if a1 ≥ a2 then some [] else
  (yc.f k a0_3 4 false).bind fun b => if b.1.length = 4 then some (((ZH a0_0 a0_1 a0_2 b.1).drop a1.toNat).take (a2 - a1).toNat) else none
theorem qg.nil (a0_0 a0_1 a0_2 a0_3 a1 a2 : Int) (w : World) (h : a1 < 0 ∨ a2 > 8 ∨ a1 ≥ a2) :
    Calls Tryz.prog 176 #[.agg #[.int .i64 a0_0, .int .i64 a0_1, .int .i64 a0_2, .int .u64 a0_3], .int .i64 a1, .int .i64 a2] w fun e w' => ∃ v0_ : Value, e = .returned (v0_) ∧ Kd.R (Kd.int .u16) 33 w' w.heap.size (fun _ => True) v0_ [] ∧ Below w.heap.size w w' := by
  have hu189 := Tryz.underlying189
  by_cases h1 : a1 < 0
  · have d1 : decide (a1 < 0) = true := dT h1
    clear h h1
    go_enter Tryz.func176, Tryz.ntmps176
    go_wp2_with (fail)
    go_ret
    exact ⟨_, rfl, Kd.xM _ _ _ _ _, (Below.refl _ _).alloc (Nat.le_refl _) _⟩
  · have d1 : decide (a1 < 0) = false := dF h1
    by_cases h2 : a2 > 8
    · have d2 : decide (8 < a2) = true := dT h2
      clear h h1 h2
      go_enter Tryz.func176, Tryz.ntmps176
      go_wp2_with (fail)
      go_ret
      exact ⟨_, rfl, Kd.xM _ _ _ _ _, (Below.refl _ _).alloc (Nat.le_refl _) _⟩
    · have d2 : decide (8 < a2) = false := dF h2
      have d3 : decide (a2 ≤ a1) = true := decide_eq_true (by omega)
      clear h h1 h2
      go_enter Tryz.func176, Tryz.ntmps176
      go_wp2_with (fail)
      go_ret
      exact ⟨_, rfl, Kd.xM _ _ _ _ _, (Below.refl _ _).alloc (Nat.le_refl _) _⟩
theorem qg.calls (k : Nat) (a0_0 a0_1 a0_2 a0_3 a1 a2 : Int) (r : List Int) (w : World) (h : qg.f k a0_0 a0_1 a0_2 a0_3 a1 a2 = some r) :
    Calls Tryz.prog 176 #[.agg #[.int .i64 a0_0, .int .i64 a0_1, .int .i64 a0_2, .int .u64 a0_3], .int .i64 a1, .int .i64 a2] w fun e w' => ∃ v0_ : Value, e = .returned (v0_) ∧ Kd.R (Kd.int .u16) 33 w' w.heap.size (fun _ => True) v0_ r ∧ Below w.heap.size w w' := by
  unfold qg.f at h
  by_cases h1 : a1 < 0
  · rw [if_pos h1] at h
    obtain rfl := Option.some.inj h
    exact qg.nil _ _ _ _ _ _ _ (.inl h1)
  rw [if_neg h1] at h
  by_cases h2 : a2 > 8
  · rw [if_pos h2] at h
    obtain rfl := Option.some.inj h
    exact qg.nil _ _ _ _ _ _ _ (.inr (.inl h2))
  rw [if_neg h2] at h
  by_cases h3 : a1 ≥ a2
  · rw [if_pos h3] at h
    obtain rfl := Option.some.inj h
    exact qg.nil _ _ _ _ _ _ _ (.inr (.inr h3))
  rw [if_neg h3] at h
  obtain ⟨⟨l, ok⟩, hs, h⟩ := Option.bind_eq_some_iff.mp h
  split at h
  · rename_i hl
    obtain rfl := Option.some.inj h
    clear h
    match l, hl, hs with
    | [x0, x1, x2, x3], _, hs =>
    have HS := hQ hs
    clear hs
    obtain ⟨f, rfl⟩ := Int.eq_ofNat_of_zero_le (show 0 ≤ a1 by omega)
    obtain ⟨t, rfl⟩ := Int.eq_ofNat_of_zero_le (show 0 ≤ a2 by omega)
    have hft : f < t := by omega
    have ht : t ≤ 8 := by omega
    have d1 : decide ((f : Int) < 0) = false := dF h1
    have d2 : decide (8 < (t : Int)) = false := dF h2
    have d3 : decide (t ≤ f) = false := decide_eq_false (by omega)
    have d4 : decide ((t : Int) ≤ (f : Int)) = false := decide_eq_false (by omega)
    clear h1 h2 h3
    have hu189 := Tryz.underlying189
    have hu291 := Tryz.underlying291
    go_enter Tryz.func176, Tryz.ntmps176
    go_wp2_with (fail)
    refine (Yp k _ _ _ _ x0 x1 x2 x3 ok _ HS.out).mono ?_
    rintro e w1 ⟨rfl, hb⟩
    have hz : w.heap.size ≤ w1.heap.size := by have := hb.size; simp at this; omega
    have HB := hQ ((((Below.refl _ _).alloc (Nat.le_refl _) _)).trans (hb.mono (show w.heap.size ≤ _ by simp)))
    clear hb
    have hsl : ∀ (W : World), (Instr.sliceAt 291 (.pointer (some ⟨w1.heap.size, 0, none⟩)) (some (.int .i64 f)) (some (.int .i64 t)) none).run Tryz.prog W = .ok (.slice (some ⟨w1.heap.size, f, none⟩) (t - f) (8 - f)) W := fun W => by
      have b1 : f ≤ t := by omega
      have b3 : 8 ≠ f := by omega
      simp [Instr.sliceAt, Instr.slice, Instr.sliceBounds, Instr.sliceBound, go_sem, b1, ht, b3, Addr.add]
      exact fun h => h.symm
    go_wp2_with (fail)
    have hlr : (ZH a0_0 a0_1 a0_2 [x0, x1, x2, x3]).length = 8 := rfl
    have hll : (List.take (t - f) (List.drop f (ZH a0_0 a0_1 a0_2 [x0, x1, x2, x3]))).length = t - f := by rw [List.length_take, List.length_drop, hlr]; omega
    have hC := ZF (ZH a0_0 a0_1 a0_2 [x0, x1, x2, x3]) (qP w1 (.cells #[.int .u16 0, .int .u16 (IntKind.u16.wrap a0_0), .int .u16 (IntKind.u16.wrap a0_1), .int .u16 (IntKind.u16.wrap a0_2), .int .u16 x0, .int .u16 x1, .int .u16 x2, .int .u16 x3] 291) _ rfl) f (t - f) (by omega) (by omega)
    have hm := slices_Clone.calls (some ⟨w1.heap.size, f, none⟩) (8 - f) (List.take (t - f) (List.drop f (ZH a0_0 a0_1 a0_2 [x0, x1, x2, x3]))) (List.take ((t : Int) - (f : Int)).toNat (List.drop (f : Int).toNat (ZH a0_0 a0_1 a0_2 [x0, x1, x2, x3]))) _ (by rw [hll]; exact hC) (by rw [hll]; omega) (by unfold slices_Clone.f; rw [hll, if_pos (by omega), show ((t : Int) - (f : Int)).toNat = t - f by omega, Int.toNat_natCast])
    rw [hll] at hm
    refine hm.mono ?_
    rintro e w2 ⟨v, rfl, hR, hb2⟩
    have HR := hQ hR
    have HB2 := hQ hb2
    clear hR hb2 hm hC
    go_wp2_with (fail)
    go_ret
    exact ⟨_, rfl, Kd.zU HR.out (by simp; omega), (HB.out.alloc hz _).trans (HB2.out.mono (by simp; omega))⟩
  · cases h
end Go.Proofs.YtlalbohhopmpdaaGreat.Top
namespace Go.Proofs.YtlalbohhopmpdaaGreat.Top
open Go.RowKit Go.Proofs.YtlalbohhopmpdaaGreat.PTop Go.YW.PrintWords Go.YW.PrintLast Go.YW.PrintMore Go.Proofs.YtlalbohhopmpdaaGreat.Num
attribute [local go_sem] zm zu
theorem Yg (w : World) (cb : Nat) (wh : Int) :
    Calls Tryz.prog 138 #[.int .i64 wh, .pointer (some ⟨cb, 0, none⟩)] w fun e w' => e = .returned (.func (.func 139) #[] #[.pointer (some ⟨cb, 0, none⟩), .pointer (some ⟨w.heap.size, 0, none⟩)]) ∧ w' = w.alloc (.cells #[.int .i64 wh] 3) := by
  have hmf : ∀ (fn : Fn) (first cap : Array Value) (w : World), (Instr.makeFunc fn first cap).run Tryz.prog w = .ok (.func fn first cap) w := fun _ _ _ _ => rfl
  go_enter Tryz.func138, Tryz.ntmps138
  go_wp2
  go_ret
  exact ⟨rfl, rfl⟩
theorem jm {w : World} {B0 c : Nat} {A : Option Addr} {t a b : Int} (h : Kd.R k78 78 w B0 (fun _ => True) (.slice A 1 c) [⟨t, a, b⟩]) : ∃ g, A = some ⟨g, 0, none⟩ ∧ w.cell? ⟨g, 0, none⟩ = some (.int .i64 t) ∧ w.cell? ⟨g, 1, none⟩ = some (.int .i64 a) ∧ w.cell? ⟨g, 2, none⟩ = some (.int .i64 b) := by
  obtain ⟨g0, cap0, e0, _, _, _⟩ := Kd.xX h (by simp)
  obtain ⟨rfl, rfl⟩ : A = some ⟨g0, 0, none⟩ ∧ c = cap0 := by injection e0 with h1 h2 h3; exact ⟨h1, h3⟩
  obtain ⟨ad, ea, h50, h51, h52⟩ := Zl (Kd.zw h).2.2 0 (by decide) (by simp)
  cases ea
  exact ⟨g0, rfl, h50, h51, h52⟩
def qF (w : World) (m g : Value) : Prop := (∃ Am cm, m = .slice Am 5 cm ∧ Kd.R k78 78 w 0 (fun _ => True) m yD) ∧ ∃ Ag cg, g = .slice Ag 3 cg ∧ Kd.R k81 81 w 0 (fun _ => True) g yl
theorem qF.below {w w1 : World} {m g : Value} (h : qF w m g) (hb : Below w.heap.size w w1) : qF w1 m g := by
  obtain ⟨⟨Am, cm, h1, h2⟩, Ag, cg, h3, h4⟩ := h
  exact ⟨⟨Am, cm, h1, Kd.zy h2 hb⟩, Ag, cg, h3, Kd.zy h4 hb⟩
theorem qF.ch {B : Nat} {x : Ix} {w w1 : World} {m g : Value} (h : qF w m g) (hc : Ch TS (MS x) B w w1) : qF w1 m g := by
  obtain ⟨⟨Am, cm, h1, h2⟩, Ag, cg, h3, h4⟩ := h
  exact ⟨⟨Am, cm, h1, hc.R h2 (by decide)⟩, Ag, cg, h3, hc.R h4 (by decide)⟩
theorem qF.at {w : World} {cb : Nat} {m g o : Value} (h : qF w m g) (hb : w.heap[cb]? = some (.cells (xA m g o) 30 (0, 0))) : Qg w cb := by
  obtain ⟨⟨Am, cm, rfl, h2⟩, Ag, cg, rfl, h4⟩ := h
  exact ⟨Am, cm, Ag, cg, o, hb, (Kd.zw h2).2.1, (Kd.zw h4).2.1, (Kd.zw h2).2.2, (Kd.zw h4).2.2⟩
theorem JE (w : World) (A2 : Option Addr) (c2 : Nat) (A3 : Option Addr) (m c3 : Nat) (A13 : Option Addr) (c13 : Nat) :
    Calls Tryz.prog 186 #[.agg (zI 3 0 (.slice A2 0 c2) (.slice A3 m c3) 0 0 (.slice A13 0 c13))] w fun e w' => e = .returned (.agg (zI 3 0 (.slice none 0 0) (.slice A3 m c3) 0 0 (.slice none 0 0))) ∧ Below w.heap.size w w' := by
  have hu41 := Tryz.underlying41
  simp only [zI]
  go_enter Tryz.func186, Tryz.ntmps186
  go_wp2
  refine bodyPost_ret (v := .agg #[.int .i64 3, .int .i64 0, .slice none 0 0, .slice A3 m c3, .int .i64 0, .int .i64 0, .int .u16 0, .int .u16 0, .int .u16 0, .int .i64 0, .int .i64 0, .bool false, .int .i64 0, .slice none 0 0]) ?_ rfl ⟨rfl, ?_⟩
  · simp [results, Tryz.results186, go_sem, hu41]
  · (repeat (with_reducible first | exact Below.refl _ _ | (refine jc ?_ (by omega))))
    exact (((Below.refl _ _).alloc (Nat.le_refl _) _).alloc (by simp) _).alloc (by simp; omega) _
theorem JM (w : World) (a v : Int) (A2 : Option Addr) (c2 : Nat) (A3 : Option Addr) (m c3 : Nat) (A13 : Option Addr) (c13 : Nat) :
    Calls Tryz.prog 186 #[.agg (zI 6 0 (.slice A2 0 c2) (.slice A3 m c3) a v (.slice A13 0 c13))] w fun e w' => e = .returned (.agg (zI 6 0 (.slice none 0 0) (.slice none 0 0) a v (.slice none 0 0))) ∧ Below w.heap.size w w' := by
  have hu41 := Tryz.underlying41
  simp only [zI]
  go_enter Tryz.func186, Tryz.ntmps186
  go_wp2
  go_region
  go_wp2
  refine bodyPost_ret (v := .agg #[.int .i64 6, .int .i64 0, .slice none 0 0, .slice none 0 0, .int .i64 a, .int .i64 0, .int .u16 v, .int .u16 0, .int .u16 0, .int .i64 0, .int .i64 0, .bool false, .int .i64 0, .slice none 0 0]) ?_ rfl ⟨rfl, ?_⟩
  · simp [results, Tryz.results186, go_sem, hu41]
  · (repeat (with_reducible first | exact Below.refl _ _ | (refine jc ?_ (by omega))))
    exact ((((Below.refl _ _).alloc (Nat.le_refl _) _).alloc (by simp) _).alloc (by simp; omega) _).trans (zk (Below.refl _ _))
end Go.Proofs.YtlalbohhopmpdaaGreat.Top
