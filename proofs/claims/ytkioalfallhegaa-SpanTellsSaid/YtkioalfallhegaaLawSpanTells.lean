-- written by a program of this session (wip/pp) over the kit's print.py; Lean checks it
import Derived.Test.YtkioalfallhegaaRows
import Derived.Test.YtkioalfallhegaaPSpanLx14
import Derived.Test.YtkioalfallhegaaSaySpanTells
import Derived.Test.YtkioalfallhegaaPureSpanTells
import Derived.WalkKit
import Derived.ProofKit
import Derived.OpenShut
import Derived.ShutString
import Derived.ChangeOld
import Derived.Below
import Derived.SizedLaws
namespace Go.Proofs.Ytkioalfallhegaa.spanTells
open Go.ChangeShapes Go.WideShapes Go.ChangeAt Go.RowKit Go.Proofs.YtkioalfallhegaaW.PrintWords
open Go.ChangeMaps (open_string shut_string)
set_option linter.unusedVariables false
set_option linter.unusedSimpArgs false
theorem own : ownKnob Try.prog.godebug = none := by kernel_rfl
theorem laidOut : laidOutB Try.prog = true := by kernel_rfl
set_option maxRecDepth 100000 in
theorem lifted (os : Os) (started : os.Started) (H : Type) (enc : TypeId × Value → H) :
    ReturnsInHanded {} Try.checked os 6 .any (Rows.spanTellsSpec.pre6 enc Try.prog Try.f6 Rows.spanTellsRow.domain false) (Rows.spanTellsSpec.post enc Try.prog Try.f6 false true false false) := by
  refine returnsInHanded_of_change_sized (C := Try.checked) own started (by kernel_rfl) Try.func6
    (ChangeSpec.witness6 (enc := enc) (C := Try.checked) false ⟨#[], #[.agg #[.int .i64 0, .int .i64 0, .int .i64 0], .slice none 0 0, .slice none 0 0, .int .i64 0, .int .i64 0], []⟩ 8 (by kernel_rfl) (by kernel_rfl) (by kernel_rfl) (by kernel_rfl)) ?_
  intro W base args ds gs before hval0 hW hcnd hsz0 _
  have hval : ∀ (j : Nat) t v, Try.f6.params[j]? = some t → args[j]? = some v → Value.okWide Try.prog W .any base t v := hval0
  have hW' := hW
  obtain ⟨p, q, hA0, hV, rfl, hfz, hnd⟩ := hW
  have hA : DataW.TrodAll enc Try.prog W 0 (fun _ => true) true Try.f6.params.toList args.toList ds p := hA0
  rw [Try.params6] at hA hval
  obtain ⟨v0, vs0, d0, ds0, p0, q0, hargs, rfl, rfl, h0, r0⟩ := trodAll_cons hA
  obtain ⟨v1, vs1, d1, ds1, p1, q1, rfl, rfl, rfl, h1, r1⟩ := trodAll_cons r0
  obtain ⟨v2, vs2, d2, ds2, p2, q2, rfl, rfl, rfl, h2, r2⟩ := trodAll_cons r1
  obtain ⟨v3, vs3, d3, ds3, p3, q3, rfl, rfl, rfl, h3, r3⟩ := trodAll_cons r2
  obtain ⟨v4, vs4, d4, ds4, p4, q4, rfl, rfl, rfl, h4, r4⟩ := trodAll_cons r3
  obtain ⟨rfl, rfl, rfl⟩ := trodAll_nil r4
  obtain rfl : args = #[v0, v1, v2, v3, v4] := by cases args; simp_all
  obtain ⟨rfl, rfl⟩ := trodVars_none hV
  obtain ⟨vc0, rfl, vs0_⟩ := okWide_struct Try.underlying47 (hval 0 47 v0 rfl rfl)
  have k0 := h0
  have lt0 : ∀ x ∈ p0, x.block < W.heap.size := by obtain ⟨m, hm⟩ := k0; exact DataW.trod_lt m _ _ _ hm
  obtain ⟨x0, kk0, hq0⟩ : ∃ x, Go.Proofs.Ytkioalfallhegaa.PSpanL.k47.K W x vc0.toList ∧ ((Lit.int .i64 x.f0).wf = true ∧ (Lit.int .i64 x.f1).wf = true ∧ (Lit.int .i64 x.f2).wf = true) := by
    obtain ⟨fuel, hf⟩ := h0
    exact Go.Proofs.Ytkioalfallhegaa.PSpanL.rdk_S47 fuel _ _ hf
  obtain rfl : vc0 = #[.int .i64 x0.f0, .int .i64 x0.f1, .int .i64 x0.f2] := by
    obtain ⟨vl0⟩ := vc0
    replace kk0 : Go.Proofs.Ytkioalfallhegaa.PSpanL.k47.K W x0 vl0 := kk0
    obtain ⟨_, _, rfl, rfl, ⟨_, _, rfl, rfl, rfl⟩⟩ := kk0
    rfl
  obtain ⟨A1, n1, c1, rfl⟩ := okWide_slice Try.underlying48 (hval 1 48 v1 rfl rfl)
  have k1 := h1
  have lt1 : ∀ x ∈ p1, x.block < W.heap.size := by obtain ⟨m, hm⟩ := k1; exact DataW.trod_lt m _ _ _ hm
  obtain ⟨l1, el1, hr1, hc1, hq1⟩ : ∃ l, n1 = l.length ∧ Kd.C Go.Proofs.Ytkioalfallhegaa.PSpanL.k47 W A1 l.length l ∧ l.length ≤ c1 ∧ (l.length ≤ maxLen ∧ ∀ v_ ∈ l, ((Lit.int .i64 v_.f0).wf = true ∧ (Lit.int .i64 v_.f1).wf = true ∧ (Lit.int .i64 v_.f2).wf = true)) := by
    obtain ⟨fuel, hf⟩ := h1
    exact rdk_arg Try.underlying48 (by kernel_rfl) Go.Proofs.Ytkioalfallhegaa.PSpanL.rdk_S47 hf
  subst el1
  obtain ⟨A2, n2, c2, rfl⟩ := okWide_slice Try.underlying49 (hval 2 49 v2 rfl rfl)
  have k2 := h2
  have lt2 : ∀ x ∈ p2, x.block < W.heap.size := by obtain ⟨m, hm⟩ := k2; exact DataW.trod_lt m _ _ _ hm
  obtain ⟨l2, el2, hr2, hc2, hq2⟩ : ∃ l, n2 = l.length ∧ Kd.C (Kd.int .i64) W A2 l.length l ∧ l.length ≤ c2 ∧ (l.length ≤ maxLen ∧ ∀ v_ ∈ l, (Lit.int .i64 v_).wf = true) := by
    obtain ⟨fuel, hf⟩ := h2
    exact rdk_arg Try.underlying49 (by kernel_rfl) (rdk_int Try.underlying3) hf
  subst el2
  obtain ⟨a3, rfl, rfl, rfl, w3⟩ := open_int Try.underlying3 (hval 3 3 v3 rfl rfl) h3
  obtain ⟨a4, rfl, rfl, rfl, w4⟩ := open_int Try.underlying3 (hval 4 3 v4 rfl rfl) h4
  clear hA0 hval0 hsz0
  obtain ⟨k, hP⟩ := Pure.SpanTells x0 l1 l2 a3 a4 hq0 hq1 hq2 w3 w4
  refine (Go.Proofs.Ytkioalfallhegaa.PSpanL.busbarlaw12_SpanTells.calls k x0.f0 x0.f1 x0.f2 _ _ l1 _ _ l2 a3 a4 true W hr1 hc1 hr2 hc2 hP).mono fun e W' ⟨he, hb_⟩ => ?_
  have bel : Below W.heap.size W W' := hb_
  subst he
  exact ⟨_, rfl, _, _, _, [], _, [], hW', trodAll_mk1 (shut_bool Try.underlying4 _), (trodAll_cons_mk (Below.trod laidOut (by kernel_rfl) (of_decide_eq_true (by kernel_rfl)) k0 bel lt0) (trodAll_cons_mk (Below.trod laidOut (by kernel_rfl) (of_decide_eq_true (by kernel_rfl)) k1 bel lt1) (trodAll_cons_mk (Below.trod laidOut (by kernel_rfl) (of_decide_eq_true (by kernel_rfl)) k2 bel lt2) (trodAll_cons_mk (shut_int Try.underlying3 w3) (trodAll_cons_mk (shut_int Try.underlying3 w4) trodAll_mk0))))), rfl, bel.frame _, fun h => by cases h⟩
theorem over : Rows.spanTellsRow.holds Try.pinned (OpenSpec.ofChange Rows.spanTellsSpec) :=
  OpenClaim.holds_of_wide 6 Try.f6 rfl rfl rfl rfl rfl rfl rfl ⟨rfl, rfl, rfl, rfl, rfl⟩ rfl rfl rfl rfl rfl (by kernel_rfl) Try.func6 (by kernel_rfl)
    (of_decide_eq_true (by kernel_rfl)) (by unfold Func.isWrapper; first | (rw [if_pos (by decide +kernel)]; kernel_rfl) | (rw [if_neg (by decide +kernel)]; exact ⟨rfl, rfl⟩))
    (fun os started H enc _ => lifted os started H enc)
theorem proved : Rows.SpanTellsSaid := over
#print axioms proved
end Go.Proofs.Ytkioalfallhegaa.spanTells
namespace Go.Proofs.Ytkioalfallhegaa
/-- The row, under a short name, for the claim. -/
theorem spanTells_holds : Rows.SpanTellsSaid := spanTells.proved
end Go.Proofs.Ytkioalfallhegaa
