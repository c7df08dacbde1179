-- written by a program of this session (wip/pp) over the kit's print.py; Lean checks it
import Derived.Test.YtkioalfallhegaaPCtrlx0
import Derived.Test.YtkioalfallhegaaPCtrlx18
import Derived.RegionTactic
import Derived.ChangeAlike
import Derived.Laws.CopyOwn
import Derived.Outline
import Derived.Lib.Hide
import Derived.WalkSpells
namespace Go.Proofs.Ytkioalfallhegaa.PCtrl
open Go.RowKit Go.Proofs.YtkioalfallhegaaW.PrintWords Go.Proofs.YtkioalfallhegaaW.PrintLast Go.Proofs.YtkioalfallhegaaW.PrintMore
attribute [local go_sem] max2_int min2_int max_two min_two max_three min_three max_four min_four plus_setCell_drewN plus_cell_same   -- for this text's walks alone
set_option linter.unusedVariables false
set_option linter.unusedSimpArgs false

/-! ### busbarref21_ReadRegs: function 21 -/
-- IMPORT Derived.RegionTactic
-- IMPORT Derived.ChangeAlike
-- IMPORT Derived.Laws.CopyOwn
-- IMPORT Derived.Outline
-- IMPORT Derived.Lib.Hide
-- IMPORT Derived.WalkSpells
def busbarref21_ReadRegs.f (k : Nat) (a0_0 a0_1 a0_2 a0_3 a1 a2 : Int) : Option (List Int) := if a1 < 0 then some [] else if a2 > 8 then some [] else if a1 ≥ a2 then some [] else
 (busbarref21_Regs.f k a0_0 a0_1 a0_2 a0_3).bind fun b => if b.length = 8 then some ((b.take a2.toNat).drop a1.toNat) else none
theorem busbarref21_ReadRegs.nil (a0_0 a0_1 a0_2 a0_3 a1 a2 : Int) (w : World) (h : a1 < 0 ∨ a2 > 8 ∨ a1 ≥ a2) :
  Calls Try.prog 21 #[.agg #[.int .i64 a0_0, .int .i64 a0_1, .int .i64 a0_2, .int .u64 a0_3], .int .i64 a1, .int .i64 a2] w fun e w' => ∃ v0_ : Value, e = .returned (v0_) ∧ Kd.Q (Kd.int .u16) 22 w' w.heap.size (fun _ => True) v0_ [] ∧ Below w.heap.size w w' := by
 have hu36 := Try.underlying37
 by_cases h1 : a1 < 0
 ·
  have d1 : decide (a1 < 0) = true := decide_eq_true h1
  clear h h1
  go_enter Try.func21, Try.ntmps21
  go_wp2_with (fail)
  go_ret
  exact ⟨_, rfl, Kd.Q_nil _ _ _ _ _, (Below.refl _ _).alloc (Nat.le_refl _) _⟩
 ·
  have d1 : decide (a1 < 0) = false := decide_eq_false h1
  by_cases h2 : a2 > 8
  ·
   have d2 : decide (8 < a2) = true := decide_eq_true h2
   clear h h1 h2
   go_enter Try.func21, Try.ntmps21
   go_wp2_with (fail)
   go_ret
   exact ⟨_, rfl, Kd.Q_nil _ _ _ _ _, (Below.refl _ _).alloc (Nat.le_refl _) _⟩
  ·
   have d2 : decide (8 < a2) = false := decide_eq_false h2
   have d3 : decide (a2 ≤ a1) = true := decide_eq_true (by omega)
   clear h h1 h2
   go_enter Try.func21, Try.ntmps21
   go_wp2_with (fail)
   go_ret
   exact ⟨_, rfl, Kd.Q_nil _ _ _ _ _, (Below.refl _ _).alloc (Nat.le_refl _) _⟩
theorem busbarref21_ReadRegs.calls (k : Nat) (a0_0 a0_1 a0_2 a0_3 a1 a2 : Int) (r : List Int) (w : World) (h : busbarref21_ReadRegs.f k a0_0 a0_1 a0_2 a0_3 a1 a2 = some r) :
  Calls Try.prog 21 #[.agg #[.int .i64 a0_0, .int .i64 a0_1, .int .i64 a0_2, .int .u64 a0_3], .int .i64 a1, .int .i64 a2] w fun e w' => ∃ v0_ : Value, e = .returned (v0_) ∧ Kd.Q (Kd.int .u16) 22 w' w.heap.size (fun _ => True) v0_ r ∧ Below w.heap.size w w' := by
 unfold busbarref21_ReadRegs.f at h
 by_cases h1 : a1 < 0
 ·
  rw [if_pos h1] at h
  obtain rfl := Option.some.inj h
  exact busbarref21_ReadRegs.nil _ _ _ _ _ _ _ (.inl h1)
 rw [if_neg h1] at h
 by_cases h2 : a2 > 8
 ·
  rw [if_pos h2] at h
  obtain rfl := Option.some.inj h
  exact busbarref21_ReadRegs.nil _ _ _ _ _ _ _ (.inr (.inl h2))
 rw [if_neg h2] at h
 by_cases h3 : a1 ≥ a2
 ·
  rw [if_pos h3] at h
  obtain rfl := Option.some.inj h
  exact busbarref21_ReadRegs.nil _ _ _ _ _ _ _ (.inr (.inr h3))
 rw [if_neg h3] at h
 obtain ⟨l, hs, h⟩ := Option.bind_eq_some_iff.mp h
 split at h
 ·
  rename_i hl
  obtain rfl := Option.some.inj h
  clear h
  have HS := Lib.hid hs
  clear hs
  obtain ⟨f, rfl⟩ := Int.eq_ofNat_of_zero_le (show 0 ≤ a1 by omega)
  obtain ⟨t, rfl⟩ := Int.eq_ofNat_of_zero_le (show 0 ≤ a2 by omega)
  have hft : f < t := by omega
  have ht : t ≤ 8 := by omega
  have d1 : decide ((f : Int) < 0) = false := decide_eq_false h1
  have d2 : decide (8 < (t : Int)) = false := decide_eq_false h2
  have d3 : decide (t ≤ f) = false := decide_eq_false (by omega)
  have d4 : decide ((t : Int) ≤ (f : Int)) = false := decide_eq_false (by omega)
  clear h1 h2 h3
  have hu37 := Try.underlying37
  go_enter Try.func21, Try.ntmps21
  go_wp2_with (fail)
  refine (busbarref21_Regs.calls k _ _ _ _ l _ HS.out).mono ?_
  rintro e w1 ⟨v, rfl, hR, hb⟩
  have HB := Lib.hid ((((Below.refl _ _).alloc (Nat.le_refl _) _)).trans (hb.mono (show w.heap.size ≤ _ by simp)))
  clear hb
  obtain ⟨g, cap, rfl, hg1, hg2, hg3⟩ := Kd.R_form hR (by omega)
  have hcc := (Kd.R_reads' hR).2.1
  have HQ := Lib.hid (Kd.Q_drop (Kd.Q_take (Kd.Q_of_R (Kd.R_lower hR (show w.heap.size ≤ _ by simp))) (show t ≤ l.length by omega)) (show f ≤ (l.take t).length by rw [List.length_take]; omega))
  clear hR
  have hsl : ∀ (W : World), (Instr.sliceAt 24 (.slice (some ⟨g, 0, none⟩) l.length cap) (some (.int .i64 f)) (some (.int .i64 t)) none).run Try.prog W = .ok (.slice (some ⟨g, f, none⟩) (t - f) (cap - f)) W := fun W => by
   have b1 : f ≤ t := by omega
   have b2 : t ≤ cap := by omega
   have b3 : cap ≠ f := by omega
   simp [Instr.sliceAt, Instr.slice, Instr.sliceBounds, Instr.sliceBound, go_sem, b1, b2, b3, Addr.add]
   exact fun h => h.symm
  go_wp2_with (fail)
  go_ret
  have HQ2 := HQ.out
  rw [if_neg (show ¬ cap = f by omega), show (Kd.int .u16).sz = 1 from rfl, Nat.mul_one, show (some (⟨g, 0, none⟩ : Addr)).map (·.add f) = some ⟨g, f, none⟩ by simp [Addr.add]; exact fun h => h.symm] at HQ2
  exact ⟨_, rfl, by rw [Int.toNat_natCast, Int.toNat_natCast]; exact HQ2, HB.out⟩
 ·
  cases h
theorem busbarref21_ReadRegs.mono : ∀ a0 a1 a2 a3 a4 a5 k, LeO (busbarref21_ReadRegs.f k a0 a1 a2 a3 a4 a5) (busbarref21_ReadRegs.f (k + 1) a0 a1 a2 a3 a4 a5) := by
 intro a0 a1 a2 a3 a4 a5 k
 unfold busbarref21_ReadRegs.f
 exact LeO.ite (LeO.refl _) (LeO.ite (LeO.refl _) (LeO.ite (LeO.refl _) (LeO.bind (busbarref21_Regs.mono _ _ _ _ _) (fun _ => LeO.refl _))))

end Go.Proofs.Ytkioalfallhegaa.PCtrl
