-- written by a program of this session (wip/pp) over the kit's print.py; Lean checks it
import Derived.Test.YtkioalfallhegaaRows
import Derived.Test.YtkioalfallhegaaPCtrlx13
import Derived.Test.YtkioalfallhegaaSayCtrlOrders
import Derived.Test.YtkioalfallhegaaPureCtrlOrders
import Derived.WalkKit
import Derived.ProofKit
import Derived.OpenShut
import Derived.ShutString
import Derived.ChangeOld
import Derived.Below
import Derived.SizedLaws
namespace Go.Proofs.Ytkioalfallhegaa.ctrlOrders
open Go.ChangeShapes Go.WideShapes Go.ChangeAt Go.RowKit Go.Proofs.YtkioalfallhegaaW.PrintWords
open Go.ChangeMaps (open_string shut_string)
set_option linter.unusedVariables false
set_option linter.unusedSimpArgs false
theorem own : ownKnob Try.prog.godebug = none := by kernel_rfl
theorem laidOut : laidOutB Try.prog = true := by kernel_rfl
set_option maxRecDepth 100000 in
theorem lifted (os : Os) (started : os.Started) (H : Type) (enc : TypeId × Value → H) :
    ReturnsInHanded {} Try.checked os 3 .any (Rows.ctrlOrdersSpec.pre6 enc Try.prog Try.f3 Rows.ctrlOrdersRow.domain false) (Rows.ctrlOrdersSpec.post enc Try.prog Try.f3 false true false false) := by
  refine returnsInHanded_of_change_sized (C := Try.checked) own started (by kernel_rfl) Try.func3
    (ChangeSpec.witness6 (enc := enc) (C := Try.checked) false ⟨#[], #[.agg #[.int .i64 0, .int .i64 0, .int .i64 0, .int .u16 0, .int .u16 0, .int .u16 0, .slice none 0 0, .slice none 0 0, .int .i64 0, .int .i64 0, .int .i64 0, .int .i64 0], .int .i64 0, .bool false, .int .i64 0, .int .i64 0], []⟩ 8 (by kernel_rfl) (by kernel_rfl) (by kernel_rfl) (by kernel_rfl)) ?_
  intro W base args ds gs before hval0 hW hcnd hsz0 _
  have hval : ∀ (j : Nat) t v, Try.f3.params[j]? = some t → args[j]? = some v → Value.okWide Try.prog W .any base t v := hval0
  have hW' := hW
  obtain ⟨p, q, hA0, hV, rfl, hfz, hnd⟩ := hW
  have hA : DataW.TrodAll enc Try.prog W 0 (fun _ => true) true Try.f3.params.toList args.toList ds p := hA0
  rw [Try.params3] at hA hval
  obtain ⟨v0, vs0, d0, ds0, p0, q0, hargs, rfl, rfl, h0, r0⟩ := trodAll_cons hA
  obtain ⟨v1, vs1, d1, ds1, p1, q1, rfl, rfl, rfl, h1, r1⟩ := trodAll_cons r0
  obtain ⟨v2, vs2, d2, ds2, p2, q2, rfl, rfl, rfl, h2, r2⟩ := trodAll_cons r1
  obtain ⟨v3, vs3, d3, ds3, p3, q3, rfl, rfl, rfl, h3, r3⟩ := trodAll_cons r2
  obtain ⟨v4, vs4, d4, ds4, p4, q4, rfl, rfl, rfl, h4, r4⟩ := trodAll_cons r3
  obtain ⟨rfl, rfl, rfl⟩ := trodAll_nil r4
  obtain rfl : args = #[v0, v1, v2, v3, v4] := by cases args; simp_all
  obtain ⟨rfl, rfl⟩ := trodVars_none hV
  obtain ⟨vc0, rfl, vs0_⟩ := okWide_struct Try.underlying26 (hval 0 26 v0 rfl rfl)
  have k0 := h0
  have lt0 : ∀ x ∈ p0, x.block < W.heap.size := by obtain ⟨m, hm⟩ := k0; exact DataW.trod_lt m _ _ _ hm
  obtain ⟨x0, kk0, hq0⟩ : ∃ x, Go.Proofs.Ytkioalfallhegaa.PCtrl.k26.K W x vc0.toList ∧ ((Lit.int .i64 x.f0).wf = true ∧ (Lit.int .i64 x.f1).wf = true ∧ (Lit.int .i64 x.f2).wf = true ∧ (Lit.int .u16 x.f3).wf = true ∧ (Lit.int .u16 x.f4).wf = true ∧ (Lit.int .u16 x.f5).wf = true ∧ (x.f6.length ≤ maxLen ∧ ∀ v_ ∈ x.f6, True) ∧ (x.f7.length ≤ maxLen ∧ ∀ v_ ∈ x.f7, (Lit.int .u16 v_).wf = true) ∧ (Lit.int .i64 x.f8).wf = true ∧ (Lit.int .i64 x.f9).wf = true ∧ (Lit.int .i64 x.f10).wf = true ∧ (Lit.int .i64 x.f11).wf = true) := by
    obtain ⟨fuel, hf⟩ := h0
    exact Go.Proofs.Ytkioalfallhegaa.PCtrl.rdk_S26 fuel _ _ hf
  obtain ⟨A0_6, c0_6, A0_7, c0_7, ev0, hk0_0, hk0_1, hk0_2, hk0_3⟩ : ∃ (A0_6 : Option Addr) (c0_6 : Nat) (A0_7 : Option Addr) (c0_7 : Nat), vc0 = #[.int .i64 x0.f0, .int .i64 x0.f1, .int .i64 x0.f2, .int .u16 x0.f3, .int .u16 x0.f4, .int .u16 x0.f5, .slice A0_6 x0.f6.length c0_6, .slice A0_7 x0.f7.length c0_7, .int .i64 x0.f8, .int .i64 x0.f9, .int .i64 x0.f10, .int .i64 x0.f11] ∧ x0.f6.length ≤ c0_6 ∧ Kd.C Kd.bool W A0_6 x0.f6.length x0.f6 ∧ x0.f7.length ≤ c0_7 ∧ Kd.C (Kd.int .u16) W A0_7 x0.f7.length x0.f7 := by
    obtain ⟨vl0⟩ := vc0
    replace kk0 : Go.Proofs.Ytkioalfallhegaa.PCtrl.k26.K W x0 vl0 := kk0
    obtain ⟨_, _, rfl, rfl, ⟨_, _, rfl, rfl, ⟨_, _, rfl, rfl, ⟨_, _, rfl, rfl, ⟨_, _, rfl, rfl, ⟨_, _, rfl, rfl, ⟨_, _, rfl, ⟨z_6_A, z_6_c, rfl, z_6_l, z_6_r⟩, ⟨_, _, rfl, ⟨z_7_A, z_7_c, rfl, z_7_l, z_7_r⟩, ⟨_, _, rfl, rfl, ⟨_, _, rfl, rfl, ⟨_, _, rfl, rfl, rfl⟩⟩⟩⟩⟩⟩⟩⟩⟩⟩⟩ := kk0
    exact ⟨z_6_A, z_6_c, z_7_A, z_7_c, rfl, z_6_l, z_6_r, z_7_l, z_7_r⟩
  subst ev0
  obtain ⟨a1, rfl, rfl, rfl, w1⟩ := open_int Try.underlying3 (hval 1 3 v1 rfl rfl) h1
  obtain ⟨a2, rfl, rfl, rfl⟩ := open_bool Try.underlying4 (hval 2 4 v2 rfl rfl) h2
  obtain ⟨a3, rfl, rfl, rfl, w3⟩ := open_int Try.underlying3 (hval 3 3 v3 rfl rfl) h3
  obtain ⟨a4, rfl, rfl, rfl, w4⟩ := open_int Try.underlying3 (hval 4 3 v4 rfl rfl) h4
  clear hA0 hval0 hsz0
  obtain ⟨k, hP⟩ := Pure.CtrlOrders x0 a1 a2 a3 a4 hq0 w1 w3 w4
  refine (Go.Proofs.Ytkioalfallhegaa.PCtrl.busbarlaw23_CtrlOrders.calls k x0.f0 x0.f1 x0.f2 x0.f3 x0.f4 x0.f5 _ _ x0.f6 _ _ x0.f7 x0.f8 x0.f9 x0.f10 x0.f11 a1 a2 a3 a4 true W hk0_1 hk0_0 hk0_3 hk0_2 hP).mono fun e W' ⟨he, hb_⟩ => ?_
  have bel : Below W.heap.size W W' := hb_
  subst he
  exact ⟨_, rfl, _, _, _, [], _, [], hW', trodAll_mk1 (shut_bool Try.underlying4 _), (trodAll_cons_mk (Below.trod laidOut (by kernel_rfl) (of_decide_eq_true (by kernel_rfl)) k0 bel lt0) (trodAll_cons_mk (shut_int Try.underlying3 w1) (trodAll_cons_mk (shut_bool Try.underlying4 _) (trodAll_cons_mk (shut_int Try.underlying3 w3) (trodAll_cons_mk (shut_int Try.underlying3 w4) trodAll_mk0))))), rfl, bel.frame _, fun h => by cases h⟩
theorem over : Rows.ctrlOrdersRow.holds Try.pinned (OpenSpec.ofChange Rows.ctrlOrdersSpec) :=
  OpenClaim.holds_of_wide 3 Try.f3 rfl rfl rfl rfl rfl rfl rfl ⟨rfl, rfl, rfl, rfl, rfl⟩ rfl rfl rfl rfl rfl (by kernel_rfl) Try.func3 (by kernel_rfl)
    (of_decide_eq_true (by kernel_rfl)) (by unfold Func.isWrapper; first | (rw [if_pos (by decide +kernel)]; kernel_rfl) | (rw [if_neg (by decide +kernel)]; exact ⟨rfl, rfl⟩))
    (fun os started H enc _ => lifted os started H enc)
theorem proved : Rows.CtrlOrdersSaid := over
#print axioms proved
end Go.Proofs.Ytkioalfallhegaa.ctrlOrders
namespace Go.Proofs.Ytkioalfallhegaa
/-- The row, under a short name, for the claim. -/
theorem ctrlOrders_holds : Rows.CtrlOrdersSaid := ctrlOrders.proved
end Go.Proofs.Ytkioalfallhegaa
