/- ConfChecks: the statement's row. -/
import Derived.Test.YtjlbgopgeepiaaaRows
import Derived.WalkKit
import Derived.ProofKit
import Derived.OpenShut
import Derived.ShutString
import Derived.ChangeOld
import Derived.Below
import Derived.SizedLaws
import Derived.Test.YtjlbgopgeepiaaaZConfChecks8
namespace Go.Proofs.Ytjlbgopgeepiaaa.confChecks
open Go.ChangeShapes Go.WideShapes Go.ChangeAt Go.RowKit Go.Proofs.YtjlbgopgeepiaaaW.PrintWords
open Go.ChangeMaps (open_string shut_string)
set_option linter.unusedVariables false
set_option linter.unusedSimpArgs false
theorem own : ownKnob Try.prog.godebug = none := by kernel_rfl
theorem laidOut : laidOutB Try.prog = true := by kernel_rfl
set_option maxRecDepth 100000 in
theorem lifted (os : Os) (started : os.Started) (H : Type) (enc : TypeId × Value → H) :
    ReturnsInHanded {} Try.checked os 3 .any (Rows.confChecksSpec.pre6 enc Try.prog Try.f3 Rows.confChecksRow.domain false) (Rows.confChecksSpec.post enc Try.prog Try.f3 false true false false) := by
  refine returnsInHanded_of_change_sized (C := Try.checked) own started (by kernel_rfl) Try.func3
    (ChangeSpec.witness6 (enc := enc) (C := Try.checked) false ⟨#[], #[.agg #[.slice none 0 0, .slice none 0 0, .int .i64 0, .int .i64 0, .int .i64 0, .int .i64 0, .int .i64 0, .int .i64 0, .int .i64 0, .int .i64 0, .int .i64 0, .int .u64 0, .slice none 0 0], .slice none 0 0, .int .i64 0, .int .i64 0, .bool false], []⟩ 8 (by kernel_rfl) (by kernel_rfl) (by kernel_rfl) (by kernel_rfl)) ?_
  intro W base args ds gs before hval0 hW hcnd hsz0 _
  have hval : ∀ (j : Nat) t v, Try.f3.params[j]? = some t → args[j]? = some v → Value.okWide Try.prog W .any base t v := hval0
  have hW' := hW
  obtain ⟨p, q, hA0, hV, rfl, hfz, hnd⟩ := hW
  have hA : DataW.TrodAll enc Try.prog W 0 (fun _ => true) true Try.f3.params.toList args.toList ds p := hA0
  rw [Try.params3] at hA hval
  obtain ⟨v0, vs0, d0, ds0, p0, q0, hargs, rfl, rfl, h0, r0⟩ := trodAll_cons hA
  obtain ⟨v1, vs1, d1, ds1, p1, q1, rfl, rfl, rfl, h1, r1⟩ := trodAll_cons r0
  obtain ⟨v2, vs2, d2, ds2, p2, q2, rfl, rfl, rfl, h2, r2⟩ := trodAll_cons r1
  obtain ⟨v3, vs3, d3, ds3, p3, q3, rfl, rfl, rfl, h3, r3⟩ := trodAll_cons r2
  obtain ⟨v4, vs4, d4, ds4, p4, q4, rfl, rfl, rfl, h4, r4⟩ := trodAll_cons r3
  obtain ⟨rfl, rfl, rfl⟩ := trodAll_nil r4
  obtain rfl : args = #[v0, v1, v2, v3, v4] := by cases args; simp_all
  obtain ⟨rfl, rfl⟩ := trodVars_none hV
  obtain ⟨vc0, rfl, vs0_⟩ := okWide_struct Try.underlying27 (hval 0 27 v0 rfl rfl)
  have k0 := h0
  have lt0 : ∀ x ∈ p0, x.block < W.heap.size := by obtain ⟨m, hm⟩ := k0; exact DataW.trod_lt m _ _ _ hm
  obtain ⟨x0, kk0, hq0⟩ : ∃ x, Go.Proofs.Ytjlbgopgeepiaaa.PConf.k27.K W x vc0.toList ∧ ((x.f0.length ≤ maxLen ∧ ∀ v_ ∈ x.f0, ((Lit.int .i64 v_.f0).wf = true ∧ (Lit.int .i64 v_.f1).wf = true ∧ (Lit.int .i64 v_.f2).wf = true)) ∧ (x.f1.length ≤ maxLen ∧ ∀ v_ ∈ x.f1, ((Lit.int .i64 v_.f0).wf = true ∧ (Lit.int .i64 v_.f1).wf = true ∧ (Lit.int .i64 v_.f2).wf = true)) ∧ (Lit.int .i64 x.f2).wf = true ∧ (Lit.int .i64 x.f3).wf = true ∧ (Lit.int .i64 x.f4).wf = true ∧ (Lit.int .i64 x.f5).wf = true ∧ (Lit.int .i64 x.f6).wf = true ∧ (Lit.int .i64 x.f7).wf = true ∧ (Lit.int .i64 x.f8).wf = true ∧ (Lit.int .i64 x.f9).wf = true ∧ (Lit.int .i64 x.f10).wf = true ∧ (Lit.int .u64 x.f11).wf = true ∧ (x.f12.length ≤ maxLen ∧ ∀ v_ ∈ x.f12, ((Lit.int .i64 v_.f0).wf = true ∧ v_.f1.size ≤ maxLen))) := by
    obtain ⟨fuel, hf⟩ := h0
    exact Go.Proofs.Ytjlbgopgeepiaaa.PConf.rdk_S27 fuel _ _ hf
  obtain ⟨A0_0, c0_0, A0_1, c0_1, A0_12, c0_12, ev0, hk0_0, hk0_1, hk0_2, hk0_3, hk0_4, hk0_5⟩ : ∃ (A0_0 : Option Addr) (c0_0 : Nat) (A0_1 : Option Addr) (c0_1 : Nat) (A0_12 : Option Addr) (c0_12 : Nat), vc0 = #[.slice A0_0 x0.f0.length c0_0, .slice A0_1 x0.f1.length c0_1, .int .i64 x0.f2, .int .i64 x0.f3, .int .i64 x0.f4, .int .i64 x0.f5, .int .i64 x0.f6, .int .i64 x0.f7, .int .i64 x0.f8, .int .i64 x0.f9, .int .i64 x0.f10, .int .u64 x0.f11, .slice A0_12 x0.f12.length c0_12] ∧ x0.f0.length ≤ c0_0 ∧ Kd.C Go.Proofs.Ytjlbgopgeepiaaa.PConf.k46 W A0_0 x0.f0.length x0.f0 ∧ x0.f1.length ≤ c0_1 ∧ Kd.C Go.Proofs.Ytjlbgopgeepiaaa.PConf.k48 W A0_1 x0.f1.length x0.f1 ∧ x0.f12.length ≤ c0_12 ∧ Kd.C Go.Proofs.Ytjlbgopgeepiaaa.PConf.k50 W A0_12 x0.f12.length x0.f12 := by
    obtain ⟨vl0⟩ := vc0
    replace kk0 : Go.Proofs.Ytjlbgopgeepiaaa.PConf.k27.K W x0 vl0 := kk0
    obtain ⟨_, _, rfl, ⟨z_0_A, z_0_c, rfl, z_0_l, z_0_r⟩, ⟨_, _, rfl, ⟨z_1_A, z_1_c, rfl, z_1_l, z_1_r⟩, ⟨_, _, rfl, rfl, ⟨_, _, rfl, rfl, ⟨_, _, rfl, rfl, ⟨_, _, rfl, rfl, ⟨_, _, rfl, rfl, ⟨_, _, rfl, rfl, ⟨_, _, rfl, rfl, ⟨_, _, rfl, rfl, ⟨_, _, rfl, rfl, ⟨_, _, rfl, rfl, ⟨z_12_A, z_12_c, rfl, z_12_l, z_12_r⟩⟩⟩⟩⟩⟩⟩⟩⟩⟩⟩⟩⟩ := kk0
    exact ⟨z_0_A, z_0_c, z_1_A, z_1_c, z_12_A, z_12_c, rfl, z_0_l, z_0_r, z_1_l, z_1_r, z_12_l, z_12_r⟩
  subst ev0
  obtain ⟨A1, n1, c1, rfl⟩ := okWide_slice Try.underlying28 (hval 1 28 v1 rfl rfl)
  have k1 := h1
  have lt1 : ∀ x ∈ p1, x.block < W.heap.size := by obtain ⟨m, hm⟩ := k1; exact DataW.trod_lt m _ _ _ hm
  obtain ⟨l1, el1, hr1, hc1, hq1⟩ : ∃ l, n1 = l.length ∧ Kd.C (Kd.int .i64) W A1 l.length l ∧ l.length ≤ c1 ∧ (l.length ≤ maxLen ∧ ∀ v_ ∈ l, (Lit.int .i64 v_).wf = true) := by
    obtain ⟨fuel, hf⟩ := h1
    exact rdk_arg Try.underlying28 (by kernel_rfl) (rdk_int Try.underlying3) hf
  subst el1
  obtain ⟨a2, rfl, rfl, rfl, w2⟩ := open_int Try.underlying3 (hval 2 3 v2 rfl rfl) h2
  obtain ⟨a3, rfl, rfl, rfl, w3⟩ := open_int Try.underlying3 (hval 3 3 v3 rfl rfl) h3
  obtain ⟨a4, rfl, rfl, rfl⟩ := open_bool Try.underlying4 (hval 4 4 v4 rfl rfl) h4
  clear hA0 hval0 hsz0
  obtain ⟨k, hP⟩ := Pure.ConfChecks x0 l1 a2 a3 a4 hq0 hq1 w2 w3
  refine (Go.Proofs.Ytjlbgopgeepiaaa.PConf.busbarlaw15_ConfChecks.calls k _ _ x0.f0 _ _ x0.f1 x0.f2 x0.f3 x0.f4 x0.f5 x0.f6 x0.f7 x0.f8 x0.f9 x0.f10 x0.f11 _ _ x0.f12 _ _ l1 a2 a3 a4 true W hk0_1 hk0_0 hk0_3 hk0_2 hk0_5 hk0_4 hr1 hc1 hP).mono fun e W' ⟨he, hb_⟩ => ?_
  have bel : Below W.heap.size W W' := hb_
  subst he
  exact ⟨_, rfl, _, _, _, [], _, [], hW', trodAll_mk1 (shut_bool Try.underlying4 _), (trodAll_cons_mk (Below.trod laidOut (by kernel_rfl) (of_decide_eq_true (by kernel_rfl)) k0 bel lt0) (trodAll_cons_mk (Below.trod laidOut (by kernel_rfl) (of_decide_eq_true (by kernel_rfl)) k1 bel lt1) (trodAll_cons_mk (shut_int Try.underlying3 w2) (trodAll_cons_mk (shut_int Try.underlying3 w3) (trodAll_cons_mk (shut_bool Try.underlying4 _) trodAll_mk0))))), rfl, bel.frame _, fun h => by cases h⟩
theorem over : Rows.confChecksRow.holds Try.pinned (OpenSpec.ofChange Rows.confChecksSpec) :=
  OpenClaim.holds_of_wide 3 Try.f3 rfl rfl rfl rfl rfl rfl rfl ⟨rfl, rfl, rfl, rfl, rfl⟩ rfl rfl rfl rfl rfl (by kernel_rfl) Try.func3 (by kernel_rfl)
    (of_decide_eq_true (by kernel_rfl)) (by unfold Func.isWrapper; first | (rw [if_pos (by decide +kernel)]; kernel_rfl) | (rw [if_neg (by decide +kernel)]; exact ⟨rfl, rfl⟩))
    (fun os started H enc _ => lifted os started H enc)
theorem proved : Rows.ConfChecksSaid := over
#print axioms proved
end Go.Proofs.Ytjlbgopgeepiaaa.confChecks
namespace Go.Proofs.Ytjlbgopgeepiaaa
/-- The row, under a short name, for the claim. -/
theorem confChecks_holds : Rows.ConfChecksSaid := confChecks.proved
end Go.Proofs.Ytjlbgopgeepiaaa
