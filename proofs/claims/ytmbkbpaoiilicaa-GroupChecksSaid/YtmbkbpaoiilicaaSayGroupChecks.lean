-- written by a program of this session (wip/pp) over the kit's print.py; Lean checks it
import Derived.Test.YtmbkbpaoiilicaaPGroupCx17
import Derived.Test.YtmbkbpaoiilicaaWRead
namespace Go.Proofs.Ytmbkbpaoiilicaa.PGroupC
open Go.RowKit Go.ChangeShapes Go.WideShapes Go.Deep Go.Proofs.YtmbkbpaoiilicaaW.PrintWords Go.Proofs.YtmbkbpaoiilicaaW.PrintLast Go.Proofs.YtmbkbpaoiilicaaW.PrintMore
set_option linter.unusedVariables false
set_option linter.unusedSimpArgs false
set_option maxRecDepth 100000
theorem rx_len3 {α : Type} : ∀ (l : List α), l.length = 3 → ∃ c0 c1 c2, l = [c0, c1, c2]
  | [c0, c1, c2], _ => ⟨c0, c1, c2, rfl⟩
theorem rdk_S30 {H : Type} {enc : TypeId × Value → H} {w : World} {base : Nat} {spare : Nat → Bool} {held : Bool} : Rdk enc Try.prog w base spare held 30 k30 (fun x => ((Lit.int .i64 x.f0).wf = true ∧ (Lit.int .i64 x.f1).wf = true ∧ (Lit.int .i64 x.f2).wf = true)) := by
  intro fuel cs x h
  obtain ⟨ys, m, _, _, hcl, hyl, hf⟩ := Go.DataW.trod_struct Try.underlying30 h
  replace hcl : cs.length = 3 := hcl.trans (by kernel_rfl)
  replace hyl : ys.length = 3 := hyl
  obtain ⟨c0, c1, c2, rfl⟩ := rx_len3 cs hcl
  obtain ⟨y0, hy0⟩ : ∃ y, ys[0]? = some y := ⟨_, List.getElem?_eq_getElem (by omega)⟩
  have e0 : DataW.trod enc Try.prog w base spare held m 3 ((([c0, c1, c2] : List Value).drop 0).take (Try.prog.cellsOf 3)) = ys[0]? := hf 0 _ rfl
  rw [hy0, show Try.prog.cellsOf 3 = 1 from by kernel_rfl] at e0
  obtain ⟨v0, k0_, q0⟩ := (rdk_int Try.underlying3) m [c0] y0 e0
  obtain ⟨y1, hy1⟩ : ∃ y, ys[1]? = some y := ⟨_, List.getElem?_eq_getElem (by omega)⟩
  have e1 : DataW.trod enc Try.prog w base spare held m 3 ((([c0, c1, c2] : List Value).drop 1).take (Try.prog.cellsOf 3)) = ys[1]? := hf 1 _ rfl
  rw [hy1, show Try.prog.cellsOf 3 = 1 from by kernel_rfl] at e1
  obtain ⟨v1, k1_, q1⟩ := (rdk_int Try.underlying3) m [c1] y1 e1
  obtain ⟨y2, hy2⟩ : ∃ y, ys[2]? = some y := ⟨_, List.getElem?_eq_getElem (by omega)⟩
  have e2 : DataW.trod enc Try.prog w base spare held m 3 ((([c0, c1, c2] : List Value).drop 2).take (Try.prog.cellsOf 3)) = ys[2]? := hf 2 _ rfl
  rw [hy2, show Try.prog.cellsOf 3 = 1 from by kernel_rfl] at e2
  obtain ⟨v2, k2_, q2⟩ := (rdk_int Try.underlying3) m [c2] y2 e2
  exact ⟨⟨v0, v1, v2⟩, ⟨[c0], [c1, c2], rfl, k0_, ⟨[c1], [c2], rfl, k1_, k2_⟩⟩, ⟨q0, q1, q2⟩⟩
/-- THE ONE PURE STATEMENT of busbarlaw14_GroupChecks. -/
def busbarlaw14_GroupChecks.Pure : Prop := ∀ (l0 : List (S30)) (l1 : List Int) (a2 : Int) (a3 : Int), (l0.length ≤ maxLen ∧ ∀ v_ ∈ l0, ((Lit.int .i64 v_.f0).wf = true ∧ (Lit.int .i64 v_.f1).wf = true ∧ (Lit.int .i64 v_.f2).wf = true)) → (l1.length ≤ maxLen ∧ ∀ v_ ∈ l1, (Lit.int .i64 v_).wf = true) → (Lit.int .i64 a2).wf = true → (Lit.int .i64 a3).wf = true → ∃ k, busbarlaw14_GroupChecks.f k l0 l1 a2 a3 = some true
end Go.Proofs.Ytmbkbpaoiilicaa.PGroupC
