-- written by a program of this session (wip/pp) over the kit's print.py; Lean checks it
import Derived.Test.YtgbclemmadkcmaaPAdux0
import Derived.RegionTactic
import Derived.ChangeAlike
import Derived.Laws.CopyOwn
import Derived.Outline
import Derived.Lib.Hide
import Derived.WalkSpells
namespace Go.Proofs.Ytgbclemmadkcmaa.PAdu
open Go.RowKit Go.Proofs.YtgbclemmadkcmaaW.PrintWords Go.Proofs.YtgbclemmadkcmaaW.PrintLast Go.Proofs.YtgbclemmadkcmaaW.PrintMore
attribute [local go_sem] max2_int min2_int max_two min_two max_three min_three max_four min_four plus_setCell_drewN plus_cell_same   -- for this text's walks alone
set_option linter.unusedVariables false
set_option linter.unusedSimpArgs false

/-! ### slices_Clone_byte_byte: function 38 -/
-- IMPORT Derived.RegionTactic
-- IMPORT Derived.ChangeAlike
-- IMPORT Derived.Laws.CopyOwn
-- IMPORT Derived.Outline
-- IMPORT Derived.Lib.Hide
-- IMPORT Derived.WalkSpells
def slices_Clone_byte_byte.f (l0 : List Int) : Option (List Int) := if l0.length < 140737488355328 then some l0 else none
theorem slices_Clone_byte_byte.calls (A0 : Option Addr) (c0 : Nat) (l0 : List Int) (r : List Int) (w : World) (hr0 : Kd.C (Kd.int .u8) w A0 l0.length l0) (hc0 : l0.length ≤ c0) (h : slices_Clone_byte_byte.f l0 = some r) :
  Calls Try.prog 38 #[.slice A0 l0.length c0] w fun e w' => ∃ v0_ : Value, e = .returned (v0_) ∧ Kd.R (Kd.int .u8) 5 w' w.heap.size (fun _ => True) v0_ r ∧ Below w.heap.size w w' := by
 unfold slices_Clone_byte_byte.f at h
 split at h
 ·
  rename_i hlt
  obtain rfl := Option.some.inj h
  clear h
  cases A0 with
  | none =>
   have hl : l0 = [] := by
    rcases Nat.eq_zero_or_pos l0.length with h0 | h0
    ·
     exact List.eq_nil_of_length_eq_zero h0
    ·
     obtain ⟨ad, e, _⟩ := hr0.2.2 h0
     cases e
   subst hl
   have hnil := @Lib.run_eql_slice_nil Try.prog
   go_enter Try.func38, Try.ntmps38
   go_wp2
   go_ret
   exact ⟨_, rfl, Kd.R_nil _ _ _ _ _, Below.refl _ _⟩
  | some a0 =>
   have hnil := @Lib.run_eql_slice_nil Try.prog
   go_enter Try.func38, Try.ntmps38
   have HR := Aside0.mk hr0
   have HL := Aside0.mk hlt
   clear hr0 hlt
   go_wp2_with (first | ((with_reducible refine gate_dst (N := 5) rfl ?_); refine Kd.R_lit (Kd.int .u8) (w0 := w) w.heap.size 5 ?hg (N := 5) ?hd (xs := ([] : List Int)) (inner := []) (ok := fun _ => True) (okp := fun _ => True) ?hr (Reps.none _ _) (fun _ h => h) trivial (Below.refl _ _) (Nat.le_refl _) (by simp) ?_; (case hd => rfl); (case hg => rfl); (case hr => first | (go_simp; done) | (go_simp; rfl)); intro v1 w1 ho hb hg_ _; have HO := Aside0.mk ho; have HB := Aside0.mk hb; clear ho hb hg_) | ((with_reducible refine gate_builtin (b := .append) (xs := #[.tmp 5, .tmp 6]) (ts := #[22, 22]) rfl ?_); refine Kd.R_append_rows (Kd.int .u8) (w0 := w) w.heap.size rfl (.tmp 5) (.tmp 6) 22 5 (.int .u8 0) 1 rfl Try.underlying22 info5 rfl (by decide) (by omega) _ ([] : List Int) l0 _ _ _ (fun _ => True) (fun _ => False) rfl rfl HO.out (Kd.C_below HR.out HB.out) (fun _ _ h => h) (fun _ h => h.elim) (fun _ _ => trivial) HB.out HB.out.size ?aL ?_; (case aL => have := HL.out; simp; omega); intro v2 w2 ho hb hg_ _; have HO2 := Aside0.mk ho; have HB2 := Aside0.mk hb; clear ho hb hg_))
   go_ret
   exact ⟨_, rfl, by have := HO2.out; simpa using this, HB2.out⟩
 ·
  cases h

end Go.Proofs.Ytgbclemmadkcmaa.PAdu
