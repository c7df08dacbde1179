-- written by a program of this session (wip/pp) over the kit's print.py; Lean checks it
import Derived.Test.YtmbkbpaoiilicaaRows
import Derived.Test.YtmbkbpaoiilicaaPGroupAx22
import Derived.Test.YtmbkbpaoiilicaaPureGroupAsks
import Derived.WalkKit
import Derived.ProofKit
import Derived.OpenShut
import Derived.ShutString
import Derived.ChangeOld
import Derived.Below
import Derived.SizedLaws
import Derived.Test.YtmbkbpaoiilicaaWSized
namespace Go.Proofs.Ytmbkbpaoiilicaa.groupAsks
open Go.ChangeShapes Go.WideShapes Go.ChangeAt Go.RowKit
open Go.ChangeMaps (open_string shut_string)
set_option linter.unusedVariables false
theorem own : ownKnob Try.prog.godebug = none := by kernel_rfl
theorem laidOut : laidOutB Try.prog = true := by kernel_rfl
def IsRow (k : IntKind) (w : World) (a : Option Addr) (len cap : Nat) (zs : List Int) : Prop :=
  (a = none ∧ len = 0 ∧ cap = 0 ∧ zs = []) ∨
  ∃ x, a = some x ∧ len ≤ cap ∧ cap ≤ maxLen ∧ zs.length = cap ∧ (∀ i, i < zs.length → w.cell? (x.add i) = some (.int k (zs.getD i 0))) ∧ ∀ n ∈ zs, (Lit.int k n).wf = true
set_option maxRecDepth 100000 in
theorem own_len2 {α : Type} : ∀ (l : List α), l.length = 2 → ∃ c0 c1, l = [c0, c1]
  | [c0, c1], _ => ⟨c0, c1, rfl⟩
theorem own_len3 {α : Type} : ∀ (l : List α), l.length = 3 → ∃ c0 c1 c2, l = [c0, c1, c2]
  | [c0, c1, c2], _ => ⟨c0, c1, c2, rfl⟩
theorem own_len4 {α : Type} : ∀ (l : List α), l.length = 4 → ∃ c0 c1 c2 c3, l = [c0, c1, c2, c3]
  | [c0, c1, c2, c3], _ => ⟨c0, c1, c2, c3, rfl⟩
set_option linter.unusedSimpArgs false
set_option maxRecDepth 100000 in
theorem lifted (os : Os) (started : os.Started) (H : Type) (enc : TypeId × Value → H) :
    ReturnsInHanded {} Try.checked os 8 .any (Rows.groupAsksSpec.pre6 enc Try.prog Try.f8 Rows.groupAsksRow.domain false) (Rows.groupAsksSpec.post enc Try.prog Try.f8 false true false false) := by
  refine returnsInHanded_of_change_sized (C := Try.checked) own started (by kernel_rfl) Try.func8
    (ChangeSpec.witness6 (enc := enc) (C := Try.checked) false ⟨#[], #[.slice none 0 0, .agg #[.int .i64 0, .int .i64 0], .bool false, .int .i64 0], []⟩ 8 (by kernel_rfl) (by kernel_rfl) (by kernel_rfl) (by kernel_rfl)) ?_
  intro W base args ds gs before hval0 hW hcnd hsz0 _
  have hsz : (DataW.weightsEach Try.prog (Try.f8.params.toList ++ Rows.groupAsksSpec.plain.varTypes Try.prog) (ds ++ gs)).all (· ≤ reachBytes) = true := hsz0
  have hval : ∀ (j : Nat) t v, Try.f8.params[j]? = some t → args[j]? = some v → Value.okWide Try.prog W .any base t v := hval0
  have hW' := hW
  obtain ⟨p, q, hA0, hV, rfl, hfz, hnd⟩ := hW
  have hA : DataW.TrodAll enc Try.prog W 0 (fun _ => true) true Try.f8.params.toList args.toList ds p := hA0
  rw [Try.params8] at hA hval hsz
  obtain ⟨v0, vs0, d0, ds0, p0, q0, hargs, rfl, rfl, h0, r0⟩ := trodAll_cons hA
  obtain ⟨v1, vs1, d1, ds1, p1, q1, rfl, rfl, rfl, h1, r1⟩ := trodAll_cons r0
  obtain ⟨v2, vs2, d2, ds2, p2, q2, rfl, rfl, rfl, h2, r2⟩ := trodAll_cons r1
  obtain ⟨v3, vs3, d3, ds3, p3, q3, rfl, rfl, rfl, h3, r3⟩ := trodAll_cons r2
  obtain ⟨rfl, rfl, rfl⟩ := trodAll_nil r3
  obtain rfl : args = #[v0, v1, v2, v3] := by cases args; simp_all
  obtain ⟨rfl, rfl⟩ := trodVars_none hV
  obtain ⟨a0, len0, cap0, rfl⟩ := okWide_slice Try.underlying22 (hval 0 22 v0 rfl rfl)
  have k0 := h0
  have lt0 : ∀ x ∈ p0, x.block < W.heap.size := by obtain ⟨m, hm⟩ := k0; exact DataW.trod_lt m _ _ _ hm
  obtain ⟨z0, w0⟩ : ∃ zs, IsRow .i64 W a0 len0 cap0 zs := by
    obtain ⟨fuel, hf⟩ := h0
    rcases open_ints Try.underlying22 Try.underlying3 (by kernel_rfl) hf with ⟨hcs, _⟩ | ⟨x, l, c, zs, hcs, _, hl, hm, hz, _, hcell, hwz⟩
    · simp [Value.cells] at hcs
      obtain ⟨rfl, rfl, rfl⟩ := hcs
      exact ⟨[], .inl ⟨rfl, rfl, rfl, rfl⟩⟩
    · simp [Value.cells] at hcs
      obtain ⟨rfl, rfl, rfl⟩ := hcs
      exact ⟨zs, .inr ⟨_, rfl, hl, hm, by simpa using hz, hcell, hwz⟩⟩
  have y0 : len0 * 8 ≤ 140737488351232 := Go.Proofs.YtmbkbpaoiilicaaW.PrintWords.sized_ints hsz (j := 0) (t := 22) rfl rfl Try.underlying22 Try.underlying3 (by kernel_rfl) (by kernel_rfl) h0
  obtain ⟨v1c, rfl, v1s⟩ := okWide_struct Try.underlying50 (hval 1 50 v1 rfl rfl)
  have k1 := h1
  have lt1 : ∀ x ∈ p1, x.block < W.heap.size := by obtain ⟨m, hm⟩ := k1; exact DataW.trod_lt m _ _ _ hm
  obtain ⟨a1_0, a1_1, rfl, w1_0, w1_1⟩ : ∃ (a1_0 : Int) (a1_1 : Int), v1c = #[.int .i64 a1_0, .int .i64 a1_1] ∧ (Lit.int .i64 a1_0).wf = true ∧ (Lit.int .i64 a1_1).wf = true := by
    have hc3 : Try.prog.cellsOf 3 = 1 := by kernel_rfl
    have hc50 : Try.prog.cellsOf 50 = 2 := by kernel_rfl
    obtain ⟨fuel, hf⟩ := h1
    rw [hc50] at v1s
    obtain ⟨cs⟩ := v1c
    replace v1s : cs.length = 2 := v1s
    replace hf : DataW.trod enc Try.prog W 0 (fun _ => true) true fuel 50 cs = _ := hf
    obtain ⟨c0, c1, rfl⟩ : ∃ c0 c1, cs = [c0, c1] := own_len2 cs v1s
    obtain ⟨ys, m, _, _, _, hl, hf⟩ := Go.DataW.trod_struct Try.underlying50 hf
    replace hl : ys.length = 2 := hl
    obtain ⟨y_0, y_1, rfl⟩ : ∃ y_0 y_1, ys = [y_0, y_1] := own_len2 ys hl
    have hy_0 := hf 0 _ rfl
    have hy_1 := hf 1 _ rfl
    simp [hc3, hc50] at hy_0 hy_1
    obtain ⟨a1_0, e1_0, _, w1_0⟩ := Go.DataW.trod_int Try.underlying3 hy_0
    obtain ⟨a1_1, e1_1, _, w1_1⟩ := Go.DataW.trod_int Try.underlying3 hy_1
    simp at e1_0 e1_1
    subst e1_0 e1_1
    exact ⟨a1_0, a1_1, rfl, w1_0, w1_1⟩
  obtain ⟨a2, rfl, rfl, rfl⟩ := open_bool Try.underlying4 (hval 2 4 v2 rfl rfl) h2
  obtain ⟨a3, rfl, rfl, rfl, w3⟩ := open_int Try.underlying3 (hval 3 3 v3 rfl rfl) h3
  clear hA0 hval0 hsz0 hsz
  refine (PGroupA.busbarlaw14_GroupAsks.walk Pure.GroupAsks a0 len0 cap0 z0 a1_0 a1_1 a2 a3 W w0 y0 w1_0 w1_1 w3).mono fun e W' ⟨he, bel⟩ => ?_
  subst he
  exact ⟨_, rfl, _, _, _, [], _, [], hW', trodAll_mk1 (shut_bool Try.underlying4 _), (trodAll_cons_mk (Below.trod laidOut (by kernel_rfl) (of_decide_eq_true (by kernel_rfl)) k0 bel lt0) (trodAll_cons_mk (Below.trod laidOut (by kernel_rfl) (of_decide_eq_true (by kernel_rfl)) k1 bel lt1) (trodAll_cons_mk (shut_bool Try.underlying4 _) (trodAll_cons_mk (shut_int Try.underlying3 w3) trodAll_mk0)))), rfl, bel.frame _, fun h => by cases h⟩
theorem over : Rows.groupAsksRow.holds Try.pinned (OpenSpec.ofChange Rows.groupAsksSpec) :=
  OpenClaim.holds_of_wide 8 Try.f8 rfl rfl rfl rfl rfl rfl rfl ⟨rfl, rfl, rfl, rfl, rfl⟩ rfl rfl rfl rfl rfl (by kernel_rfl) Try.func8 (by kernel_rfl)
    (of_decide_eq_true (by kernel_rfl)) (by unfold Func.isWrapper; first | (rw [if_pos (by decide +kernel)]; kernel_rfl) | (rw [if_neg (by decide +kernel)]; exact ⟨rfl, rfl⟩))
    (fun os started H enc _ => lifted os started H enc)
theorem proved : Rows.GroupAsksSaid := over
#print axioms proved
end Go.Proofs.Ytmbkbpaoiilicaa.groupAsks
namespace Go.Proofs.Ytmbkbpaoiilicaa
/-- The row, under a short name, for the claim. -/
theorem groupAsks_holds : Rows.GroupAsksSaid := groupAsks.proved
end Go.Proofs.Ytmbkbpaoiilicaa
