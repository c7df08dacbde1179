-- written by a program of this session (wip/pp) over the kit's print.py; Lean checks it
import Derived.Test.YtkioalfallhegaaPCtrlx13
import Derived.Test.YtkioalfallhegaaWRead
namespace Go.Proofs.Ytkioalfallhegaa.PCtrl
open Go.RowKit Go.ChangeShapes Go.WideShapes Go.Deep Go.Proofs.YtkioalfallhegaaW.PrintWords Go.Proofs.YtkioalfallhegaaW.PrintLast Go.Proofs.YtkioalfallhegaaW.PrintMore
set_option linter.unusedVariables false
set_option linter.unusedSimpArgs false
set_option maxRecDepth 100000
theorem rx_len12 {α : Type} : ∀ (l : List α), l.length = 12 → ∃ c0 c1 c2 c3 c4 c5 c6 c7 c8 c9 c10 c11, l = [c0, c1, c2, c3, c4, c5, c6, c7, c8, c9, c10, c11]
  | [c0, c1, c2, c3, c4, c5, c6, c7, c8, c9, c10, c11], _ => ⟨c0, c1, c2, c3, c4, c5, c6, c7, c8, c9, c10, c11, rfl⟩
theorem rdk_S26 {H : Type} {enc : TypeId × Value → H} {w : World} {base : Nat} {spare : Nat → Bool} {held : Bool} : Rdk enc Try.prog w base spare held 26 k26 (fun x => ((Lit.int .i64 x.f0).wf = true ∧ (Lit.int .i64 x.f1).wf = true ∧ (Lit.int .i64 x.f2).wf = true ∧ (Lit.int .u16 x.f3).wf = true ∧ (Lit.int .u16 x.f4).wf = true ∧ (Lit.int .u16 x.f5).wf = true ∧ (x.f6.length ≤ maxLen ∧ ∀ v_ ∈ x.f6, True) ∧ (x.f7.length ≤ maxLen ∧ ∀ v_ ∈ x.f7, (Lit.int .u16 v_).wf = true) ∧ (Lit.int .i64 x.f8).wf = true ∧ (Lit.int .i64 x.f9).wf = true ∧ (Lit.int .i64 x.f10).wf = true ∧ (Lit.int .i64 x.f11).wf = true)) := by
  intro fuel cs x h
  obtain ⟨ys, m, _, _, hcl, hyl, hf⟩ := Go.DataW.trod_struct Try.underlying26 h
  replace hcl : cs.length = 12 := hcl.trans (by kernel_rfl)
  replace hyl : ys.length = 12 := hyl
  obtain ⟨c0, c1, c2, c3, c4, c5, c6, c7, c8, c9, c10, c11, rfl⟩ := rx_len12 cs hcl
  obtain ⟨y0, hy0⟩ : ∃ y, ys[0]? = some y := ⟨_, List.getElem?_eq_getElem (by omega)⟩
  have e0 : DataW.trod enc Try.prog w base spare held m 3 ((([c0, c1, c2, c3, c4, c5, c6, c7, c8, c9, c10, c11] : List Value).drop 0).take (Try.prog.cellsOf 3)) = ys[0]? := hf 0 _ rfl
  rw [hy0, show Try.prog.cellsOf 3 = 1 from by kernel_rfl] at e0
  obtain ⟨v0, k0_, q0⟩ := (rdk_int Try.underlying3) m [c0] y0 e0
  obtain ⟨y1, hy1⟩ : ∃ y, ys[1]? = some y := ⟨_, List.getElem?_eq_getElem (by omega)⟩
  have e1 : DataW.trod enc Try.prog w base spare held m 3 ((([c0, c1, c2, c3, c4, c5, c6, c7, c8, c9, c10, c11] : List Value).drop 1).take (Try.prog.cellsOf 3)) = ys[1]? := hf 1 _ rfl
  rw [hy1, show Try.prog.cellsOf 3 = 1 from by kernel_rfl] at e1
  obtain ⟨v1, k1_, q1⟩ := (rdk_int Try.underlying3) m [c1] y1 e1
  obtain ⟨y2, hy2⟩ : ∃ y, ys[2]? = some y := ⟨_, List.getElem?_eq_getElem (by omega)⟩
  have e2 : DataW.trod enc Try.prog w base spare held m 3 ((([c0, c1, c2, c3, c4, c5, c6, c7, c8, c9, c10, c11] : List Value).drop 2).take (Try.prog.cellsOf 3)) = ys[2]? := hf 2 _ rfl
  rw [hy2, show Try.prog.cellsOf 3 = 1 from by kernel_rfl] at e2
  obtain ⟨v2, k2_, q2⟩ := (rdk_int Try.underlying3) m [c2] y2 e2
  obtain ⟨y3, hy3⟩ : ∃ y, ys[3]? = some y := ⟨_, List.getElem?_eq_getElem (by omega)⟩
  have e3 : DataW.trod enc Try.prog w base spare held m 22 ((([c0, c1, c2, c3, c4, c5, c6, c7, c8, c9, c10, c11] : List Value).drop 3).take (Try.prog.cellsOf 22)) = ys[3]? := hf 3 _ rfl
  rw [hy3, show Try.prog.cellsOf 22 = 1 from by kernel_rfl] at e3
  obtain ⟨v3, k3_, q3⟩ := (rdk_int Try.underlying22) m [c3] y3 e3
  obtain ⟨y4, hy4⟩ : ∃ y, ys[4]? = some y := ⟨_, List.getElem?_eq_getElem (by omega)⟩
  have e4 : DataW.trod enc Try.prog w base spare held m 22 ((([c0, c1, c2, c3, c4, c5, c6, c7, c8, c9, c10, c11] : List Value).drop 4).take (Try.prog.cellsOf 22)) = ys[4]? := hf 4 _ rfl
  rw [hy4, show Try.prog.cellsOf 22 = 1 from by kernel_rfl] at e4
  obtain ⟨v4, k4_, q4⟩ := (rdk_int Try.underlying22) m [c4] y4 e4
  obtain ⟨y5, hy5⟩ : ∃ y, ys[5]? = some y := ⟨_, List.getElem?_eq_getElem (by omega)⟩
  have e5 : DataW.trod enc Try.prog w base spare held m 22 ((([c0, c1, c2, c3, c4, c5, c6, c7, c8, c9, c10, c11] : List Value).drop 5).take (Try.prog.cellsOf 22)) = ys[5]? := hf 5 _ rfl
  rw [hy5, show Try.prog.cellsOf 22 = 1 from by kernel_rfl] at e5
  obtain ⟨v5, k5_, q5⟩ := (rdk_int Try.underlying22) m [c5] y5 e5
  obtain ⟨y6, hy6⟩ : ∃ y, ys[6]? = some y := ⟨_, List.getElem?_eq_getElem (by omega)⟩
  have e6 : DataW.trod enc Try.prog w base spare held m 23 ((([c0, c1, c2, c3, c4, c5, c6, c7, c8, c9, c10, c11] : List Value).drop 6).take (Try.prog.cellsOf 23)) = ys[6]? := hf 6 _ rfl
  rw [hy6, show Try.prog.cellsOf 23 = 1 from by kernel_rfl] at e6
  obtain ⟨v6, k6_, q6⟩ := (rdk_slice Try.underlying23 (by kernel_rfl) (rdk_bool Try.underlying4) 4) m [c6] y6 e6
  obtain ⟨y7, hy7⟩ : ∃ y, ys[7]? = some y := ⟨_, List.getElem?_eq_getElem (by omega)⟩
  have e7 : DataW.trod enc Try.prog w base spare held m 24 ((([c0, c1, c2, c3, c4, c5, c6, c7, c8, c9, c10, c11] : List Value).drop 7).take (Try.prog.cellsOf 24)) = ys[7]? := hf 7 _ rfl
  rw [hy7, show Try.prog.cellsOf 24 = 1 from by kernel_rfl] at e7
  obtain ⟨v7, k7_, q7⟩ := (rdk_slice Try.underlying24 (by kernel_rfl) (rdk_int Try.underlying22) 22) m [c7] y7 e7
  obtain ⟨y8, hy8⟩ : ∃ y, ys[8]? = some y := ⟨_, List.getElem?_eq_getElem (by omega)⟩
  have e8 : DataW.trod enc Try.prog w base spare held m 3 ((([c0, c1, c2, c3, c4, c5, c6, c7, c8, c9, c10, c11] : List Value).drop 8).take (Try.prog.cellsOf 3)) = ys[8]? := hf 8 _ rfl
  rw [hy8, show Try.prog.cellsOf 3 = 1 from by kernel_rfl] at e8
  obtain ⟨v8, k8_, q8⟩ := (rdk_int Try.underlying3) m [c8] y8 e8
  obtain ⟨y9, hy9⟩ : ∃ y, ys[9]? = some y := ⟨_, List.getElem?_eq_getElem (by omega)⟩
  have e9 : DataW.trod enc Try.prog w base spare held m 3 ((([c0, c1, c2, c3, c4, c5, c6, c7, c8, c9, c10, c11] : List Value).drop 9).take (Try.prog.cellsOf 3)) = ys[9]? := hf 9 _ rfl
  rw [hy9, show Try.prog.cellsOf 3 = 1 from by kernel_rfl] at e9
  obtain ⟨v9, k9_, q9⟩ := (rdk_int Try.underlying3) m [c9] y9 e9
  obtain ⟨y10, hy10⟩ : ∃ y, ys[10]? = some y := ⟨_, List.getElem?_eq_getElem (by omega)⟩
  have e10 : DataW.trod enc Try.prog w base spare held m 3 ((([c0, c1, c2, c3, c4, c5, c6, c7, c8, c9, c10, c11] : List Value).drop 10).take (Try.prog.cellsOf 3)) = ys[10]? := hf 10 _ rfl
  rw [hy10, show Try.prog.cellsOf 3 = 1 from by kernel_rfl] at e10
  obtain ⟨v10, k10_, q10⟩ := (rdk_int Try.underlying3) m [c10] y10 e10
  obtain ⟨y11, hy11⟩ : ∃ y, ys[11]? = some y := ⟨_, List.getElem?_eq_getElem (by omega)⟩
  have e11 : DataW.trod enc Try.prog w base spare held m 3 ((([c0, c1, c2, c3, c4, c5, c6, c7, c8, c9, c10, c11] : List Value).drop 11).take (Try.prog.cellsOf 3)) = ys[11]? := hf 11 _ rfl
  rw [hy11, show Try.prog.cellsOf 3 = 1 from by kernel_rfl] at e11
  obtain ⟨v11, k11_, q11⟩ := (rdk_int Try.underlying3) m [c11] y11 e11
  exact ⟨⟨v0, v1, v2, v3, v4, v5, v6, v7, v8, v9, v10, v11⟩, ⟨[c0], [c1, c2, c3, c4, c5, c6, c7, c8, c9, c10, c11], rfl, k0_, ⟨[c1], [c2, c3, c4, c5, c6, c7, c8, c9, c10, c11], rfl, k1_, ⟨[c2], [c3, c4, c5, c6, c7, c8, c9, c10, c11], rfl, k2_, ⟨[c3], [c4, c5, c6, c7, c8, c9, c10, c11], rfl, k3_, ⟨[c4], [c5, c6, c7, c8, c9, c10, c11], rfl, k4_, ⟨[c5], [c6, c7, c8, c9, c10, c11], rfl, k5_, ⟨[c6], [c7, c8, c9, c10, c11], rfl, k6_, ⟨[c7], [c8, c9, c10, c11], rfl, k7_, ⟨[c8], [c9, c10, c11], rfl, k8_, ⟨[c9], [c10, c11], rfl, k9_, ⟨[c10], [c11], rfl, k10_, k11_⟩⟩⟩⟩⟩⟩⟩⟩⟩⟩⟩, ⟨q0, q1, q2, q3, q4, q5, q6, q7, q8, q9, q10, q11⟩⟩
/-- THE ONE PURE STATEMENT of busbarlaw23_CtrlOrders. -/
def busbarlaw23_CtrlOrders.Pure : Prop := ∀ (x0 : S26) (a1 : Int) (a2 : Bool) (a3 : Int) (a4 : Int), ((Lit.int .i64 x0.f0).wf = true ∧ (Lit.int .i64 x0.f1).wf = true ∧ (Lit.int .i64 x0.f2).wf = true ∧ (Lit.int .u16 x0.f3).wf = true ∧ (Lit.int .u16 x0.f4).wf = true ∧ (Lit.int .u16 x0.f5).wf = true ∧ (x0.f6.length ≤ maxLen ∧ ∀ v_ ∈ x0.f6, True) ∧ (x0.f7.length ≤ maxLen ∧ ∀ v_ ∈ x0.f7, (Lit.int .u16 v_).wf = true) ∧ (Lit.int .i64 x0.f8).wf = true ∧ (Lit.int .i64 x0.f9).wf = true ∧ (Lit.int .i64 x0.f10).wf = true ∧ (Lit.int .i64 x0.f11).wf = true) → (Lit.int .i64 a1).wf = true → (Lit.int .i64 a3).wf = true → (Lit.int .i64 a4).wf = true → ∃ k, busbarlaw23_CtrlOrders.f k x0.f0 x0.f1 x0.f2 x0.f3 x0.f4 x0.f5 x0.f6 x0.f7 x0.f8 x0.f9 x0.f10 x0.f11 a1 a2 a3 a4 = some true
end Go.Proofs.Ytkioalfallhegaa.PCtrl
