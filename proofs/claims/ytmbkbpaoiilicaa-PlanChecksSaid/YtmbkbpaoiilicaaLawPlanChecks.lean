-- written by a program of this session (wip/pp) over the kit's print.py; Lean checks it
import Derived.Test.YtmbkbpaoiilicaaRows
import Derived.Test.YtmbkbpaoiilicaaPPlanLx18
import Derived.Test.YtmbkbpaoiilicaaSayPlanChecks
import Derived.Test.YtmbkbpaoiilicaaPurePlanChecks
import Derived.WalkKit
import Derived.ProofKit
import Derived.OpenShut
import Derived.ShutString
import Derived.ChangeOld
import Derived.Below
import Derived.SizedLaws
namespace Go.Proofs.Ytmbkbpaoiilicaa.planChecks
open Go.ChangeShapes Go.WideShapes Go.ChangeAt Go.RowKit Go.Proofs.YtmbkbpaoiilicaaW.PrintWords
open Go.ChangeMaps (open_string shut_string)
set_option linter.unusedVariables false
set_option linter.unusedSimpArgs false
theorem own : ownKnob Try.prog.godebug = none := by kernel_rfl
theorem laidOut : laidOutB Try.prog = true := by kernel_rfl
set_option maxRecDepth 100000 in
theorem lifted (os : Os) (started : os.Started) (H : Type) (enc : TypeId × Value → H) :
    ReturnsInHanded {} Try.checked os 4 .any (Rows.planChecksSpec.pre6 enc Try.prog Try.f4 Rows.planChecksRow.domain false) (Rows.planChecksSpec.post enc Try.prog Try.f4 false true false false) := by
  refine returnsInHanded_of_change_sized (C := Try.checked) own started (by kernel_rfl) Try.func4
    (ChangeSpec.witness6 (enc := enc) (C := Try.checked) false ⟨#[], #[.slice none 0 0, .slice none 0 0, .int .i64 0, .bool false], []⟩ 8 (by kernel_rfl) (by kernel_rfl) (by kernel_rfl) (by kernel_rfl)) ?_
  intro W base args ds gs before hval0 hW hcnd hsz0 _
  have hval : ∀ (j : Nat) t v, Try.f4.params[j]? = some t → args[j]? = some v → Value.okWide Try.prog W .any base t v := hval0
  have hW' := hW
  obtain ⟨p, q, hA0, hV, rfl, hfz, hnd⟩ := hW
  have hA : DataW.TrodAll enc Try.prog W 0 (fun _ => true) true Try.f4.params.toList args.toList ds p := hA0
  rw [Try.params4] at hA hval
  obtain ⟨v0, vs0, d0, ds0, p0, q0, hargs, rfl, rfl, h0, r0⟩ := trodAll_cons hA
  obtain ⟨v1, vs1, d1, ds1, p1, q1, rfl, rfl, rfl, h1, r1⟩ := trodAll_cons r0
  obtain ⟨v2, vs2, d2, ds2, p2, q2, rfl, rfl, rfl, h2, r2⟩ := trodAll_cons r1
  obtain ⟨v3, vs3, d3, ds3, p3, q3, rfl, rfl, rfl, h3, r3⟩ := trodAll_cons r2
  obtain ⟨rfl, rfl, rfl⟩ := trodAll_nil r3
  obtain rfl : args = #[v0, v1, v2, v3] := by cases args; simp_all
  obtain ⟨rfl, rfl⟩ := trodVars_none hV
  obtain ⟨A0, n0, c0, rfl⟩ := okWide_slice Try.underlying25 (hval 0 25 v0 rfl rfl)
  have k0 := h0
  have lt0 : ∀ x ∈ p0, x.block < W.heap.size := by obtain ⟨m, hm⟩ := k0; exact DataW.trod_lt m _ _ _ hm
  obtain ⟨l0, el0, hr0, hc0, hq0⟩ : ∃ l, n0 = l.length ∧ Kd.C Go.Proofs.Ytmbkbpaoiilicaa.PPlanL.k32 W A0 l.length l ∧ l.length ≤ c0 ∧ (l.length ≤ maxLen ∧ ∀ v_ ∈ l, ((Lit.int .i64 v_.f0).wf = true ∧ (Lit.int .i64 v_.f1).wf = true ∧ (Lit.int .i64 v_.f2).wf = true)) := by
    obtain ⟨fuel, hf⟩ := h0
    exact rdk_arg Try.underlying25 (by kernel_rfl) Go.Proofs.Ytmbkbpaoiilicaa.PPlanL.rdk_S32 hf
  subst el0
  obtain ⟨A1, n1, c1, rfl⟩ := okWide_slice Try.underlying22 (hval 1 22 v1 rfl rfl)
  have k1 := h1
  have lt1 : ∀ x ∈ p1, x.block < W.heap.size := by obtain ⟨m, hm⟩ := k1; exact DataW.trod_lt m _ _ _ hm
  obtain ⟨l1, el1, hr1, hc1, hq1⟩ : ∃ l, n1 = l.length ∧ Kd.C (Kd.int .i64) W A1 l.length l ∧ l.length ≤ c1 ∧ (l.length ≤ maxLen ∧ ∀ v_ ∈ l, (Lit.int .i64 v_).wf = true) := by
    obtain ⟨fuel, hf⟩ := h1
    exact rdk_arg Try.underlying22 (by kernel_rfl) (rdk_int Try.underlying3) hf
  subst el1
  obtain ⟨a2, rfl, rfl, rfl, w2⟩ := open_int Try.underlying3 (hval 2 3 v2 rfl rfl) h2
  obtain ⟨a3, rfl, rfl, rfl⟩ := open_bool Try.underlying4 (hval 3 4 v3 rfl rfl) h3
  clear hA0 hval0 hsz0
  obtain ⟨k, hP⟩ := Pure.PlanChecks l0 l1 a2 a3 hq0 hq1 w2
  refine (Go.Proofs.Ytmbkbpaoiilicaa.PPlanL.busbarlaw13_PlanChecks.calls k _ _ l0 _ _ l1 a2 a3 true W hr0 hc0 hr1 hc1 hP).mono fun e W' ⟨he, hb_⟩ => ?_
  have bel : Below W.heap.size W W' := hb_
  subst he
  exact ⟨_, rfl, _, _, _, [], _, [], hW', trodAll_mk1 (shut_bool Try.underlying4 _), (trodAll_cons_mk (Below.trod laidOut (by kernel_rfl) (of_decide_eq_true (by kernel_rfl)) k0 bel lt0) (trodAll_cons_mk (Below.trod laidOut (by kernel_rfl) (of_decide_eq_true (by kernel_rfl)) k1 bel lt1) (trodAll_cons_mk (shut_int Try.underlying3 w2) (trodAll_cons_mk (shut_bool Try.underlying4 _) trodAll_mk0)))), rfl, bel.frame _, fun h => by cases h⟩
theorem over : Rows.planChecksRow.holds Try.pinned (OpenSpec.ofChange Rows.planChecksSpec) :=
  OpenClaim.holds_of_wide 4 Try.f4 rfl rfl rfl rfl rfl rfl rfl ⟨rfl, rfl, rfl, rfl, rfl⟩ rfl rfl rfl rfl rfl (by kernel_rfl) Try.func4 (by kernel_rfl)
    (of_decide_eq_true (by kernel_rfl)) (by unfold Func.isWrapper; first | (rw [if_pos (by decide +kernel)]; kernel_rfl) | (rw [if_neg (by decide +kernel)]; exact ⟨rfl, rfl⟩))
    (fun os started H enc _ => lifted os started H enc)
theorem proved : Rows.PlanChecksSaid := over
#print axioms proved
end Go.Proofs.Ytmbkbpaoiilicaa.planChecks
namespace Go.Proofs.Ytmbkbpaoiilicaa
/-- The row, under a short name, for the claim. -/
theorem planChecks_holds : Rows.PlanChecksSaid := planChecks.proved
end Go.Proofs.Ytmbkbpaoiilicaa
