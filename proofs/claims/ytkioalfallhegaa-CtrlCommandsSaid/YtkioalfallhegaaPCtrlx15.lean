-- written by a program of this session (wip/pp) over the kit's print.py; Lean checks it
import Derived.Test.YtkioalfallhegaaPCtrlx0
import Derived.Test.YtkioalfallhegaaPCtrlx2
import Derived.Test.YtkioalfallhegaaPCtrlx5
import Derived.RegionTactic
import Derived.ChangeAlike
import Derived.Laws.CopyOwn
import Derived.Outline
import Derived.Lib.Hide
import Derived.WalkSpells
namespace Go.Proofs.Ytkioalfallhegaa.PCtrl
open Go.RowKit Go.Proofs.YtkioalfallhegaaW.PrintWords Go.Proofs.YtkioalfallhegaaW.PrintLast Go.Proofs.YtkioalfallhegaaW.PrintMore
attribute [local go_sem] max2_int min2_int max_two min_two max_three min_three max_four min_four plus_setCell_drewN plus_cell_same   -- for this text's walks alone
set_option linter.unusedVariables false
set_option linter.unusedSimpArgs false

/-! ### ctrl_Read: function 17 -/
-- IMPORT Derived.RegionTactic
-- IMPORT Derived.ChangeAlike
-- IMPORT Derived.Laws.CopyOwn
-- IMPORT Derived.Outline
-- IMPORT Derived.Lib.Hide
-- IMPORT Derived.WalkSpells
def ctrl_Read.f (k : Nat) (a0_0 a0_1 a0_2 a0_3 a1 a2 : Int) : Option (List Int) := if a1 < 0 then some [] else if a2 > 8 then some [] else if a1 ≥ a2 then some [] else
 (word_Split.f k a0_3 4 false).bind fun b => if b.1.length = 4 then some (((regsOf a0_0 a0_1 a0_2 b.1).drop a1.toNat).take (a2 - a1).toNat) else none
theorem ctrl_Read.nil (a0_0 a0_1 a0_2 a0_3 a1 a2 : Int) (w : World) (h : a1 < 0 ∨ a2 > 8 ∨ a1 ≥ a2) :
  Calls Try.prog 17 #[.agg #[.int .i64 a0_0, .int .i64 a0_1, .int .i64 a0_2, .int .u64 a0_3], .int .i64 a1, .int .i64 a2] w fun e w' => ∃ v0_ : Value, e = .returned (v0_) ∧ Kd.R (Kd.int .u16) 22 w' w.heap.size (fun _ => True) v0_ [] ∧ Below w.heap.size w w' := by
 have hu36 := Try.underlying36
 by_cases h1 : a1 < 0
 ·
  have d1 : decide (a1 < 0) = true := decide_eq_true h1
  clear h h1
  go_enter Try.func17, Try.ntmps17
  go_wp2_with (fail)
  go_ret
  exact ⟨_, rfl, Kd.R_nil _ _ _ _ _, (Below.refl _ _).alloc (Nat.le_refl _) _⟩
 ·
  have d1 : decide (a1 < 0) = false := decide_eq_false h1
  by_cases h2 : a2 > 8
  ·
   have d2 : decide (8 < a2) = true := decide_eq_true h2
   clear h h1 h2
   go_enter Try.func17, Try.ntmps17
   go_wp2_with (fail)
   go_ret
   exact ⟨_, rfl, Kd.R_nil _ _ _ _ _, (Below.refl _ _).alloc (Nat.le_refl _) _⟩
  ·
   have d2 : decide (8 < a2) = false := decide_eq_false h2
   have d3 : decide (a2 ≤ a1) = true := decide_eq_true (by omega)
   clear h h1 h2
   go_enter Try.func17, Try.ntmps17
   go_wp2_with (fail)
   go_ret
   exact ⟨_, rfl, Kd.R_nil _ _ _ _ _, (Below.refl _ _).alloc (Nat.le_refl _) _⟩
theorem ctrl_Read.calls (k : Nat) (a0_0 a0_1 a0_2 a0_3 a1 a2 : Int) (r : List Int) (w : World) (h : ctrl_Read.f k a0_0 a0_1 a0_2 a0_3 a1 a2 = some r) :
  Calls Try.prog 17 #[.agg #[.int .i64 a0_0, .int .i64 a0_1, .int .i64 a0_2, .int .u64 a0_3], .int .i64 a1, .int .i64 a2] w fun e w' => ∃ v0_ : Value, e = .returned (v0_) ∧ Kd.R (Kd.int .u16) 22 w' w.heap.size (fun _ => True) v0_ r ∧ Below w.heap.size w w' := by
 unfold ctrl_Read.f at h
 by_cases h1 : a1 < 0
 ·
  rw [if_pos h1] at h
  obtain rfl := Option.some.inj h
  exact ctrl_Read.nil _ _ _ _ _ _ _ (.inl h1)
 rw [if_neg h1] at h
 by_cases h2 : a2 > 8
 ·
  rw [if_pos h2] at h
  obtain rfl := Option.some.inj h
  exact ctrl_Read.nil _ _ _ _ _ _ _ (.inr (.inl h2))
 rw [if_neg h2] at h
 by_cases h3 : a1 ≥ a2
 ·
  rw [if_pos h3] at h
  obtain rfl := Option.some.inj h
  exact ctrl_Read.nil _ _ _ _ _ _ _ (.inr (.inr h3))
 rw [if_neg h3] at h
 obtain ⟨⟨l, ok⟩, hs, h⟩ := Option.bind_eq_some_iff.mp h
 split at h
 ·
  rename_i hl
  obtain rfl := Option.some.inj h
  clear h
  match l, hl, hs with
  | [x0, x1, x2, x3], _, hs =>
  have HS := Lib.hid hs
  clear hs
  obtain ⟨f, rfl⟩ := Int.eq_ofNat_of_zero_le (show 0 ≤ a1 by omega)
  obtain ⟨t, rfl⟩ := Int.eq_ofNat_of_zero_le (show 0 ≤ a2 by omega)
  have hft : f < t := by omega
  have ht : t ≤ 8 := by omega
  have d1 : decide ((f : Int) < 0) = false := decide_eq_false h1
  have d2 : decide (8 < (t : Int)) = false := decide_eq_false h2
  have d3 : decide (t ≤ f) = false := decide_eq_false (by omega)
  have d4 : decide ((t : Int) ≤ (f : Int)) = false := decide_eq_false (by omega)
  clear h1 h2 h3
  have hu36 := Try.underlying36
  have hu69 := Try.underlying69
  go_enter Try.func17, Try.ntmps17
  go_wp2_with (fail)
  refine (registers_calls k _ _ _ _ x0 x1 x2 x3 ok _ HS.out).mono ?_
  rintro e w1 ⟨rfl, hb⟩
  have hz : w.heap.size ≤ w1.heap.size := by have := hb.size; simp at this; omega
  have HB := Lib.hid ((((Below.refl _ _).alloc (Nat.le_refl _) _)).trans (hb.mono (show w.heap.size ≤ _ by simp)))
  clear hb
  have hsl : ∀ (W : World), (Instr.sliceAt 69 (.pointer (some ⟨w1.heap.size, 0, none⟩)) (some (.int .i64 f)) (some (.int .i64 t)) none).run Try.prog W = .ok (.slice (some ⟨w1.heap.size, f, none⟩) (t - f) (8 - f)) W := fun W => by
   have b1 : f ≤ t := by omega
   have b3 : 8 ≠ f := by omega
   simp [Instr.sliceAt, Instr.slice, Instr.sliceBounds, Instr.sliceBound, go_sem, b1, ht, b3, Addr.add]
   exact fun h => h.symm
  go_wp2_with (fail)
  have hlr : (regsOf a0_0 a0_1 a0_2 [x0, x1, x2, x3]).length = 8 := rfl
  have hll : (List.take (t - f) (List.drop f (regsOf a0_0 a0_1 a0_2 [x0, x1, x2, x3]))).length = t - f := by rw [List.length_take, List.length_drop, hlr]; omega
  have hC := C_block (regsOf a0_0 a0_1 a0_2 [x0, x1, x2, x3]) (blk_at_new w1 (.cells #[.int .u16 0, .int .u16 (IntKind.u16.wrap a0_0), .int .u16 (IntKind.u16.wrap a0_1), .int .u16 (IntKind.u16.wrap a0_2), .int .u16 x0, .int .u16 x1, .int .u16 x2, .int .u16 x3] 69) _ rfl) f (t - f) (by omega) (by omega)
  have hm := slices_Clone.calls (some ⟨w1.heap.size, f, none⟩) (8 - f) (List.take (t - f) (List.drop f (regsOf a0_0 a0_1 a0_2 [x0, x1, x2, x3]))) (List.take ((t : Int) - (f : Int)).toNat (List.drop (f : Int).toNat (regsOf a0_0 a0_1 a0_2 [x0, x1, x2, x3]))) _ (by rw [hll]; exact hC) (by rw [hll]; omega) (by unfold slices_Clone.f; rw [hll, if_pos (by omega), show ((t : Int) - (f : Int)).toNat = t - f by omega, Int.toNat_natCast])
  rw [hll] at hm
  refine hm.mono ?_
  rintro e w2 ⟨v, rfl, hR, hb2⟩
  have HR := Lib.hid hR
  have HB2 := Lib.hid hb2
  clear hR hb2 hm hC
  go_wp2_with (fail)
  go_ret
  exact ⟨_, rfl, Kd.R_lower HR.out (by simp; omega), (HB.out.alloc hz _).trans (HB2.out.mono (by simp; omega))⟩
 ·
  cases h
theorem ctrl_Read.mono : ∀ a0 a1 a2 a3 a4 a5 k, LeO (ctrl_Read.f k a0 a1 a2 a3 a4 a5) (ctrl_Read.f (k + 1) a0 a1 a2 a3 a4 a5) := by
 intro a0 a1 a2 a3 a4 a5 k
 unfold ctrl_Read.f
 exact LeO.ite (LeO.refl _) (LeO.ite (LeO.refl _) (LeO.ite (LeO.refl _) (LeO.bind (word_Split.mono _ _ _ _) (fun _ => LeO.refl _))))
end Go.Proofs.Ytkioalfallhegaa.PCtrl
