/- Words and walks for ConfChecks (made of the session's own texts; each part by itself). -/
import Derived.Deep.Slices
import Derived.Deep.Fields
import Derived.ChangeSame
import Derived.OpenShut
import Derived.Test.YtjlbgopgeepiaaaZConfChecks6
set_option linter.unusedVariables false
set_option linter.unusedSimpArgs false
namespace Go.Proofs.YtjlbgopgeepiaaaW.PrintWords
open Go.RowKit Go.ChangeShapes Go.WideShapes Go.Deep
section
variable {H : Type} {enc : TypeId × Value → H} {P : Program} {w : World} {base : Nat} {spare : Nat → Bool} {held : Bool}
def Rdk {α : Type} (enc : TypeId × Value → H) (P : Program) (w : World) (base : Nat) (spare : Nat → Bool) (held : Bool) (t : TypeId) (d : Kd α) (Q : α → Prop) : Prop :=
  ∀ (fuel : Nat) (cs : List Value) (x : DataW H × List MemPlace), DataW.trod enc P w base spare held fuel t cs = some x → ∃ v, d.K w v cs ∧ Q v
theorem rdk_int {t : TypeId} {k : IntKind} (hu : P.underlying t = some (.int k)) : Rdk enc P w base spare held t (Kd.int k) (fun v => (Lit.int k v).wf = true) := fun fuel cs x h => by
  obtain ⟨n, rfl, _, hw⟩ := DataW.trod_int hu h
  exact ⟨n, rfl, hw⟩
theorem rdk_str {t : TypeId} (hu : P.underlying t = some .string) : Rdk enc P w base spare held t Kd.string (fun v => v.size ≤ maxLen) := fun fuel cs x h => by
  obtain ⟨s, rfl, _, hw⟩ := DataW.trod_string hu h
  exact ⟨s, rfl, hw⟩
theorem rdk_row {α : Type} {d : Kd α} {Q : α → Prop} {A : Addr} {e : TypeId} {m : Nat} (hC : P.cellsOf e = d.sz) (he : Rdk enc P w base spare held e d Q)
    (hi : ∀ i, i < m → ∃ (cs' : List Value) (n : Nat) (x : DataW H × List MemPlace), w.cells? base (A.add (i * P.cellsOf e)) (P.cellsOf e) = some cs' ∧ DataW.trod enc P w base spare held n e cs' = some x) :
    ∀ len, len ≤ m → ∃ xs : List α, xs.length = len ∧ (∀ v ∈ xs, Q v) ∧ ∀ j p, xs[j]? = some p → ∃ c, c.length = d.sz ∧ d.K w p c ∧ ∀ i u, c[i]? = some u → w.cell? (A.add (j * d.sz + i)) = some u
  | 0, _ => ⟨[], rfl, by simp, by simp⟩
  | len + 1, hl => by
    obtain ⟨xs, h1, h2, h3⟩ := rdk_row hC he hi len (by omega)
    obtain ⟨cs', n, x, hc, ht⟩ := hi len (by omega)
    obtain ⟨v, hv, hq⟩ := he n cs' x ht
    obtain ⟨_, hcl, hat⟩ := World.cells?_some hc
    rw [hC] at hcl hat
    refine ⟨xs ++ [v], by simp [h1], fun y hy => ?_, fun j p hp => ?_⟩
    · rcases List.mem_append.1 hy with hy | hy
      · exact h2 y hy
      · rw [List.mem_singleton.1 hy]; exact hq
    · rcases Nat.lt_or_ge j xs.length with hj | hj
      · rw [List.getElem?_append_left hj] at hp
        exact h3 j p hp
      · rw [List.getElem?_append_right hj] at hp
        have h0 : j - xs.length = 0 := by
          have := (List.getElem?_eq_some_iff.1 hp).1
          simp at this
          omega
        rw [h0] at hp
        simp only [List.getElem?_cons_zero, Option.some.injEq] at hp
        subst hp
        have hj2 : j = len := by omega
        subst hj2
        refine ⟨cs', hcl, hv, fun i u hu => ?_⟩
        have hil : i < d.sz := by
          have := (List.getElem?_eq_some_iff.1 hu).1
          omega
        have := hat i hil
        rw [← Go.Deep.add_add, this]
        exact hu
theorem rdk_arg {α : Type} {d : Kd α} {Q : α → Prop} {t e : TypeId} (hu : P.underlying t = some (.slice e)) (hC : P.cellsOf e = d.sz) (he : Rdk enc P w base spare held e d Q)
    {fuel : Nat} {A : Option Addr} {n c : Nat} {x : DataW H × List MemPlace} (h : DataW.trod enc P w base spare held fuel t [.slice A n c] = some x) :
    ∃ xs : List α, n = xs.length ∧ d.C w A xs.length xs ∧ xs.length ≤ c ∧ xs.length ≤ maxLen ∧ ∀ v ∈ xs, Q v := by
  rcases open_slice hu h with ⟨hcs, _⟩ | ⟨a, len, cap, m, k, D, Pl, hcs, _, hl, hm, hmm, _, hi⟩
  · simp only [List.cons.injEq, and_true] at hcs
    injection hcs with h1 h2 h3
    subst h1; subst h2; subst h3
    exact ⟨[], rfl, ⟨rfl, by simp, by simp⟩, by simp, by simp, by simp⟩
  · simp only [List.cons.injEq, and_true] at hcs
    injection hcs with h1 h2 h3
    subst h1; subst h2; subst h3
    have hlm : n ≤ m := by
      rw [hmm]
      split <;> omega
    obtain ⟨xs, h1, h2, h3⟩ := rdk_row (d := d) (Q := Q) hC he (fun i hi' => by
      obtain ⟨cs', h4, h5⟩ := hi i hi'
      exact ⟨cs', k, _, h4, h5⟩) n hlm
    refine ⟨xs, h1.symm, ⟨rfl, ?_, fun _ => ⟨a, rfl, h3⟩⟩, by omega, by omega, h2⟩
    unfold maxLen at hm
    omega
theorem rdk_slice {α : Type} {d : Kd α} {Q : α → Prop} {t e : TypeId} (hu : P.underlying t = some (.slice e)) (hC : P.cellsOf e = d.sz) (he : Rdk enc P w base spare held e d Q) (e' : Nat) :
    Rdk enc P w base spare held t (Kd.slice e' d) (fun xs => xs.length ≤ maxLen ∧ ∀ v ∈ xs, Q v) := fun fuel cs x h => by
  have hcs : ∃ A n c, cs = [.slice A n c] := by
    rcases open_slice hu h with ⟨hcs, _⟩ | ⟨a, len, cap, m, k, D, Pl, hcs, _⟩
    · exact ⟨_, _, _, hcs⟩
    · exact ⟨_, _, _, hcs⟩
  obtain ⟨A, n, c, rfl⟩ := hcs
  obtain ⟨xs, h1, h2, h3, h4, h5⟩ := rdk_arg hu hC he h
  subst h1
  exact ⟨xs, ⟨A, c, rfl, h3, h2⟩, h4, h5⟩
end
end Go.Proofs.YtjlbgopgeepiaaaW.PrintWords
namespace Go.Proofs.Ytjlbgopgeepiaaa.PConf
open Go.RowKit Go.ChangeShapes Go.WideShapes Go.Deep Go.Proofs.YtjlbgopgeepiaaaW.PrintWords Go.Proofs.YtjlbgopgeepiaaaW.PrintLast Go.Proofs.YtjlbgopgeepiaaaW.PrintMore
set_option linter.unusedVariables false
set_option linter.unusedSimpArgs false
set_option maxRecDepth 100000
theorem rx_len2 {α : Type} : ∀ (l : List α), l.length = 2 → ∃ c0 c1, l = [c0, c1]
  | [c0, c1], _ => ⟨c0, c1, rfl⟩
theorem rx_len3 {α : Type} : ∀ (l : List α), l.length = 3 → ∃ c0 c1 c2, l = [c0, c1, c2]
  | [c0, c1, c2], _ => ⟨c0, c1, c2, rfl⟩
theorem rx_len13 {α : Type} : ∀ (l : List α), l.length = 13 → ∃ c0 c1 c2 c3 c4 c5 c6 c7 c8 c9 c10 c11 c12, l = [c0, c1, c2, c3, c4, c5, c6, c7, c8, c9, c10, c11, c12]
  | [c0, c1, c2, c3, c4, c5, c6, c7, c8, c9, c10, c11, c12], _ => ⟨c0, c1, c2, c3, c4, c5, c6, c7, c8, c9, c10, c11, c12, rfl⟩
theorem rdk_S46 {H : Type} {enc : TypeId × Value → H} {w : World} {base : Nat} {spare : Nat → Bool} {held : Bool} : Rdk enc Try.prog w base spare held 46 k46 (fun x => ((Lit.int .i64 x.f0).wf = true ∧ (Lit.int .i64 x.f1).wf = true ∧ (Lit.int .i64 x.f2).wf = true)) := by
  intro fuel cs x h
  obtain ⟨ys, m, _, _, hcl, hyl, hf⟩ := Go.DataW.trod_struct Try.underlying46 h
  replace hcl : cs.length = 3 := hcl.trans (by kernel_rfl)
  replace hyl : ys.length = 3 := hyl
  obtain ⟨c0, c1, c2, rfl⟩ := rx_len3 cs hcl
  obtain ⟨y0, hy0⟩ : ∃ y, ys[0]? = some y := ⟨_, List.getElem?_eq_getElem (by omega)⟩
  have e0 : DataW.trod enc Try.prog w base spare held m 3 ((([c0, c1, c2] : List Value).drop 0).take (Try.prog.cellsOf 3)) = ys[0]? := hf 0 _ rfl
  rw [hy0, show Try.prog.cellsOf 3 = 1 from by kernel_rfl] at e0
  obtain ⟨v0, k0_, q0⟩ := (rdk_int Try.underlying3) m [c0] y0 e0
  obtain ⟨y1, hy1⟩ : ∃ y, ys[1]? = some y := ⟨_, List.getElem?_eq_getElem (by omega)⟩
  have e1 : DataW.trod enc Try.prog w base spare held m 3 ((([c0, c1, c2] : List Value).drop 1).take (Try.prog.cellsOf 3)) = ys[1]? := hf 1 _ rfl
  rw [hy1, show Try.prog.cellsOf 3 = 1 from by kernel_rfl] at e1
  obtain ⟨v1, k1_, q1⟩ := (rdk_int Try.underlying3) m [c1] y1 e1
  obtain ⟨y2, hy2⟩ : ∃ y, ys[2]? = some y := ⟨_, List.getElem?_eq_getElem (by omega)⟩
  have e2 : DataW.trod enc Try.prog w base spare held m 3 ((([c0, c1, c2] : List Value).drop 2).take (Try.prog.cellsOf 3)) = ys[2]? := hf 2 _ rfl
  rw [hy2, show Try.prog.cellsOf 3 = 1 from by kernel_rfl] at e2
  obtain ⟨v2, k2_, q2⟩ := (rdk_int Try.underlying3) m [c2] y2 e2
  exact ⟨⟨v0, v1, v2⟩, ⟨[c0], [c1, c2], rfl, k0_, ⟨[c1], [c2], rfl, k1_, k2_⟩⟩, ⟨q0, q1, q2⟩⟩
theorem rdk_S48 {H : Type} {enc : TypeId × Value → H} {w : World} {base : Nat} {spare : Nat → Bool} {held : Bool} : Rdk enc Try.prog w base spare held 48 k48 (fun x => ((Lit.int .i64 x.f0).wf = true ∧ (Lit.int .i64 x.f1).wf = true ∧ (Lit.int .i64 x.f2).wf = true)) := by
  intro fuel cs x h
  obtain ⟨ys, m, _, _, hcl, hyl, hf⟩ := Go.DataW.trod_struct Try.underlying48 h
  replace hcl : cs.length = 3 := hcl.trans (by kernel_rfl)
  replace hyl : ys.length = 3 := hyl
  obtain ⟨c0, c1, c2, rfl⟩ := rx_len3 cs hcl
  obtain ⟨y0, hy0⟩ : ∃ y, ys[0]? = some y := ⟨_, List.getElem?_eq_getElem (by omega)⟩
  have e0 : DataW.trod enc Try.prog w base spare held m 3 ((([c0, c1, c2] : List Value).drop 0).take (Try.prog.cellsOf 3)) = ys[0]? := hf 0 _ rfl
  rw [hy0, show Try.prog.cellsOf 3 = 1 from by kernel_rfl] at e0
  obtain ⟨v0, k0_, q0⟩ := (rdk_int Try.underlying3) m [c0] y0 e0
  obtain ⟨y1, hy1⟩ : ∃ y, ys[1]? = some y := ⟨_, List.getElem?_eq_getElem (by omega)⟩
  have e1 : DataW.trod enc Try.prog w base spare held m 3 ((([c0, c1, c2] : List Value).drop 1).take (Try.prog.cellsOf 3)) = ys[1]? := hf 1 _ rfl
  rw [hy1, show Try.prog.cellsOf 3 = 1 from by kernel_rfl] at e1
  obtain ⟨v1, k1_, q1⟩ := (rdk_int Try.underlying3) m [c1] y1 e1
  obtain ⟨y2, hy2⟩ : ∃ y, ys[2]? = some y := ⟨_, List.getElem?_eq_getElem (by omega)⟩
  have e2 : DataW.trod enc Try.prog w base spare held m 3 ((([c0, c1, c2] : List Value).drop 2).take (Try.prog.cellsOf 3)) = ys[2]? := hf 2 _ rfl
  rw [hy2, show Try.prog.cellsOf 3 = 1 from by kernel_rfl] at e2
  obtain ⟨v2, k2_, q2⟩ := (rdk_int Try.underlying3) m [c2] y2 e2
  exact ⟨⟨v0, v1, v2⟩, ⟨[c0], [c1, c2], rfl, k0_, ⟨[c1], [c2], rfl, k1_, k2_⟩⟩, ⟨q0, q1, q2⟩⟩
theorem rdk_S50 {H : Type} {enc : TypeId × Value → H} {w : World} {base : Nat} {spare : Nat → Bool} {held : Bool} : Rdk enc Try.prog w base spare held 50 k50 (fun x => ((Lit.int .i64 x.f0).wf = true ∧ x.f1.size ≤ maxLen)) := by
  intro fuel cs x h
  obtain ⟨ys, m, _, _, hcl, hyl, hf⟩ := Go.DataW.trod_struct Try.underlying50 h
  replace hcl : cs.length = 2 := hcl.trans (by kernel_rfl)
  replace hyl : ys.length = 2 := hyl
  obtain ⟨c0, c1, rfl⟩ := rx_len2 cs hcl
  obtain ⟨y0, hy0⟩ : ∃ y, ys[0]? = some y := ⟨_, List.getElem?_eq_getElem (by omega)⟩
  have e0 : DataW.trod enc Try.prog w base spare held m 3 ((([c0, c1] : List Value).drop 0).take (Try.prog.cellsOf 3)) = ys[0]? := hf 0 _ rfl
  rw [hy0, show Try.prog.cellsOf 3 = 1 from by kernel_rfl] at e0
  obtain ⟨v0, k0_, q0⟩ := (rdk_int Try.underlying3) m [c0] y0 e0
  obtain ⟨y1, hy1⟩ : ∃ y, ys[1]? = some y := ⟨_, List.getElem?_eq_getElem (by omega)⟩
  have e1 : DataW.trod enc Try.prog w base spare held m 9 ((([c0, c1] : List Value).drop 1).take (Try.prog.cellsOf 9)) = ys[1]? := hf 1 _ rfl
  rw [hy1, show Try.prog.cellsOf 9 = 1 from by kernel_rfl] at e1
  obtain ⟨v1, k1_, q1⟩ := (rdk_str Try.underlying9) m [c1] y1 e1
  exact ⟨⟨v0, v1⟩, ⟨[c0], [c1], rfl, k0_, k1_⟩, ⟨q0, q1⟩⟩
theorem rdk_S27 {H : Type} {enc : TypeId × Value → H} {w : World} {base : Nat} {spare : Nat → Bool} {held : Bool} : Rdk enc Try.prog w base spare held 27 k27 (fun x => ((x.f0.length ≤ maxLen ∧ ∀ v_ ∈ x.f0, ((Lit.int .i64 v_.f0).wf = true ∧ (Lit.int .i64 v_.f1).wf = true ∧ (Lit.int .i64 v_.f2).wf = true)) ∧ (x.f1.length ≤ maxLen ∧ ∀ v_ ∈ x.f1, ((Lit.int .i64 v_.f0).wf = true ∧ (Lit.int .i64 v_.f1).wf = true ∧ (Lit.int .i64 v_.f2).wf = true)) ∧ (Lit.int .i64 x.f2).wf = true ∧ (Lit.int .i64 x.f3).wf = true ∧ (Lit.int .i64 x.f4).wf = true ∧ (Lit.int .i64 x.f5).wf = true ∧ (Lit.int .i64 x.f6).wf = true ∧ (Lit.int .i64 x.f7).wf = true ∧ (Lit.int .i64 x.f8).wf = true ∧ (Lit.int .i64 x.f9).wf = true ∧ (Lit.int .i64 x.f10).wf = true ∧ (Lit.int .u64 x.f11).wf = true ∧ (x.f12.length ≤ maxLen ∧ ∀ v_ ∈ x.f12, ((Lit.int .i64 v_.f0).wf = true ∧ v_.f1.size ≤ maxLen)))) := by
  intro fuel cs x h
  obtain ⟨ys, m, _, _, hcl, hyl, hf⟩ := Go.DataW.trod_struct Try.underlying27 h
  replace hcl : cs.length = 13 := hcl.trans (by kernel_rfl)
  replace hyl : ys.length = 13 := hyl
  obtain ⟨c0, c1, c2, c3, c4, c5, c6, c7, c8, c9, c10, c11, c12, rfl⟩ := rx_len13 cs hcl
  obtain ⟨y0, hy0⟩ : ∃ y, ys[0]? = some y := ⟨_, List.getElem?_eq_getElem (by omega)⟩
  have e0 : DataW.trod enc Try.prog w base spare held m 22 ((([c0, c1, c2, c3, c4, c5, c6, c7, c8, c9, c10, c11, c12] : List Value).drop 0).take (Try.prog.cellsOf 22)) = ys[0]? := hf 0 _ rfl
  rw [hy0, show Try.prog.cellsOf 22 = 1 from by kernel_rfl] at e0
  obtain ⟨v0, k0_, q0⟩ := (rdk_slice Try.underlying22 (by kernel_rfl) rdk_S46 46) m [c0] y0 e0
  obtain ⟨y1, hy1⟩ : ∃ y, ys[1]? = some y := ⟨_, List.getElem?_eq_getElem (by omega)⟩
  have e1 : DataW.trod enc Try.prog w base spare held m 23 ((([c0, c1, c2, c3, c4, c5, c6, c7, c8, c9, c10, c11, c12] : List Value).drop 1).take (Try.prog.cellsOf 23)) = ys[1]? := hf 1 _ rfl
  rw [hy1, show Try.prog.cellsOf 23 = 1 from by kernel_rfl] at e1
  obtain ⟨v1, k1_, q1⟩ := (rdk_slice Try.underlying23 (by kernel_rfl) rdk_S48 48) m [c1] y1 e1
  obtain ⟨y2, hy2⟩ : ∃ y, ys[2]? = some y := ⟨_, List.getElem?_eq_getElem (by omega)⟩
  have e2 : DataW.trod enc Try.prog w base spare held m 3 ((([c0, c1, c2, c3, c4, c5, c6, c7, c8, c9, c10, c11, c12] : List Value).drop 2).take (Try.prog.cellsOf 3)) = ys[2]? := hf 2 _ rfl
  rw [hy2, show Try.prog.cellsOf 3 = 1 from by kernel_rfl] at e2
  obtain ⟨v2, k2_, q2⟩ := (rdk_int Try.underlying3) m [c2] y2 e2
  obtain ⟨y3, hy3⟩ : ∃ y, ys[3]? = some y := ⟨_, List.getElem?_eq_getElem (by omega)⟩
  have e3 : DataW.trod enc Try.prog w base spare held m 3 ((([c0, c1, c2, c3, c4, c5, c6, c7, c8, c9, c10, c11, c12] : List Value).drop 3).take (Try.prog.cellsOf 3)) = ys[3]? := hf 3 _ rfl
  rw [hy3, show Try.prog.cellsOf 3 = 1 from by kernel_rfl] at e3
  obtain ⟨v3, k3_, q3⟩ := (rdk_int Try.underlying3) m [c3] y3 e3
  obtain ⟨y4, hy4⟩ : ∃ y, ys[4]? = some y := ⟨_, List.getElem?_eq_getElem (by omega)⟩
  have e4 : DataW.trod enc Try.prog w base spare held m 3 ((([c0, c1, c2, c3, c4, c5, c6, c7, c8, c9, c10, c11, c12] : List Value).drop 4).take (Try.prog.cellsOf 3)) = ys[4]? := hf 4 _ rfl
  rw [hy4, show Try.prog.cellsOf 3 = 1 from by kernel_rfl] at e4
  obtain ⟨v4, k4_, q4⟩ := (rdk_int Try.underlying3) m [c4] y4 e4
  obtain ⟨y5, hy5⟩ : ∃ y, ys[5]? = some y := ⟨_, List.getElem?_eq_getElem (by omega)⟩
  have e5 : DataW.trod enc Try.prog w base spare held m 3 ((([c0, c1, c2, c3, c4, c5, c6, c7, c8, c9, c10, c11, c12] : List Value).drop 5).take (Try.prog.cellsOf 3)) = ys[5]? := hf 5 _ rfl
  rw [hy5, show Try.prog.cellsOf 3 = 1 from by kernel_rfl] at e5
  obtain ⟨v5, k5_, q5⟩ := (rdk_int Try.underlying3) m [c5] y5 e5
  obtain ⟨y6, hy6⟩ : ∃ y, ys[6]? = some y := ⟨_, List.getElem?_eq_getElem (by omega)⟩
  have e6 : DataW.trod enc Try.prog w base spare held m 3 ((([c0, c1, c2, c3, c4, c5, c6, c7, c8, c9, c10, c11, c12] : List Value).drop 6).take (Try.prog.cellsOf 3)) = ys[6]? := hf 6 _ rfl
  rw [hy6, show Try.prog.cellsOf 3 = 1 from by kernel_rfl] at e6
  obtain ⟨v6, k6_, q6⟩ := (rdk_int Try.underlying3) m [c6] y6 e6
  obtain ⟨y7, hy7⟩ : ∃ y, ys[7]? = some y := ⟨_, List.getElem?_eq_getElem (by omega)⟩
  have e7 : DataW.trod enc Try.prog w base spare held m 3 ((([c0, c1, c2, c3, c4, c5, c6, c7, c8, c9, c10, c11, c12] : List Value).drop 7).take (Try.prog.cellsOf 3)) = ys[7]? := hf 7 _ rfl
  rw [hy7, show Try.prog.cellsOf 3 = 1 from by kernel_rfl] at e7
  obtain ⟨v7, k7_, q7⟩ := (rdk_int Try.underlying3) m [c7] y7 e7
  obtain ⟨y8, hy8⟩ : ∃ y, ys[8]? = some y := ⟨_, List.getElem?_eq_getElem (by omega)⟩
  have e8 : DataW.trod enc Try.prog w base spare held m 3 ((([c0, c1, c2, c3, c4, c5, c6, c7, c8, c9, c10, c11, c12] : List Value).drop 8).take (Try.prog.cellsOf 3)) = ys[8]? := hf 8 _ rfl
  rw [hy8, show Try.prog.cellsOf 3 = 1 from by kernel_rfl] at e8
  obtain ⟨v8, k8_, q8⟩ := (rdk_int Try.underlying3) m [c8] y8 e8
  obtain ⟨y9, hy9⟩ : ∃ y, ys[9]? = some y := ⟨_, List.getElem?_eq_getElem (by omega)⟩
  have e9 : DataW.trod enc Try.prog w base spare held m 3 ((([c0, c1, c2, c3, c4, c5, c6, c7, c8, c9, c10, c11, c12] : List Value).drop 9).take (Try.prog.cellsOf 3)) = ys[9]? := hf 9 _ rfl
  rw [hy9, show Try.prog.cellsOf 3 = 1 from by kernel_rfl] at e9
  obtain ⟨v9, k9_, q9⟩ := (rdk_int Try.underlying3) m [c9] y9 e9
  obtain ⟨y10, hy10⟩ : ∃ y, ys[10]? = some y := ⟨_, List.getElem?_eq_getElem (by omega)⟩
  have e10 : DataW.trod enc Try.prog w base spare held m 3 ((([c0, c1, c2, c3, c4, c5, c6, c7, c8, c9, c10, c11, c12] : List Value).drop 10).take (Try.prog.cellsOf 3)) = ys[10]? := hf 10 _ rfl
  rw [hy10, show Try.prog.cellsOf 3 = 1 from by kernel_rfl] at e10
  obtain ⟨v10, k10_, q10⟩ := (rdk_int Try.underlying3) m [c10] y10 e10
  obtain ⟨y11, hy11⟩ : ∃ y, ys[11]? = some y := ⟨_, List.getElem?_eq_getElem (by omega)⟩
  have e11 : DataW.trod enc Try.prog w base spare held m 24 ((([c0, c1, c2, c3, c4, c5, c6, c7, c8, c9, c10, c11, c12] : List Value).drop 11).take (Try.prog.cellsOf 24)) = ys[11]? := hf 11 _ rfl
  rw [hy11, show Try.prog.cellsOf 24 = 1 from by kernel_rfl] at e11
  obtain ⟨v11, k11_, q11⟩ := (rdk_int Try.underlying24) m [c11] y11 e11
  obtain ⟨y12, hy12⟩ : ∃ y, ys[12]? = some y := ⟨_, List.getElem?_eq_getElem (by omega)⟩
  have e12 : DataW.trod enc Try.prog w base spare held m 25 ((([c0, c1, c2, c3, c4, c5, c6, c7, c8, c9, c10, c11, c12] : List Value).drop 12).take (Try.prog.cellsOf 25)) = ys[12]? := hf 12 _ rfl
  rw [hy12, show Try.prog.cellsOf 25 = 1 from by kernel_rfl] at e12
  obtain ⟨v12, k12_, q12⟩ := (rdk_slice Try.underlying25 (by kernel_rfl) rdk_S50 50) m [c12] y12 e12
  exact ⟨⟨v0, v1, v2, v3, v4, v5, v6, v7, v8, v9, v10, v11, v12⟩, ⟨[c0], [c1, c2, c3, c4, c5, c6, c7, c8, c9, c10, c11, c12], rfl, k0_, ⟨[c1], [c2, c3, c4, c5, c6, c7, c8, c9, c10, c11, c12], rfl, k1_, ⟨[c2], [c3, c4, c5, c6, c7, c8, c9, c10, c11, c12], rfl, k2_, ⟨[c3], [c4, c5, c6, c7, c8, c9, c10, c11, c12], rfl, k3_, ⟨[c4], [c5, c6, c7, c8, c9, c10, c11, c12], rfl, k4_, ⟨[c5], [c6, c7, c8, c9, c10, c11, c12], rfl, k5_, ⟨[c6], [c7, c8, c9, c10, c11, c12], rfl, k6_, ⟨[c7], [c8, c9, c10, c11, c12], rfl, k7_, ⟨[c8], [c9, c10, c11, c12], rfl, k8_, ⟨[c9], [c10, c11, c12], rfl, k9_, ⟨[c10], [c11, c12], rfl, k10_, ⟨[c11], [c12], rfl, k11_, k12_⟩⟩⟩⟩⟩⟩⟩⟩⟩⟩⟩⟩, ⟨q0, q1, q2, q3, q4, q5, q6, q7, q8, q9, q10, q11, q12⟩⟩
def busbarlaw15_ConfChecks.Pure : Prop := ∀ (x0 : S27) (l1 : List Int) (a2 : Int) (a3 : Int) (a4 : Bool), ((x0.f0.length ≤ maxLen ∧ ∀ v_ ∈ x0.f0, ((Lit.int .i64 v_.f0).wf = true ∧ (Lit.int .i64 v_.f1).wf = true ∧ (Lit.int .i64 v_.f2).wf = true)) ∧ (x0.f1.length ≤ maxLen ∧ ∀ v_ ∈ x0.f1, ((Lit.int .i64 v_.f0).wf = true ∧ (Lit.int .i64 v_.f1).wf = true ∧ (Lit.int .i64 v_.f2).wf = true)) ∧ (Lit.int .i64 x0.f2).wf = true ∧ (Lit.int .i64 x0.f3).wf = true ∧ (Lit.int .i64 x0.f4).wf = true ∧ (Lit.int .i64 x0.f5).wf = true ∧ (Lit.int .i64 x0.f6).wf = true ∧ (Lit.int .i64 x0.f7).wf = true ∧ (Lit.int .i64 x0.f8).wf = true ∧ (Lit.int .i64 x0.f9).wf = true ∧ (Lit.int .i64 x0.f10).wf = true ∧ (Lit.int .u64 x0.f11).wf = true ∧ (x0.f12.length ≤ maxLen ∧ ∀ v_ ∈ x0.f12, ((Lit.int .i64 v_.f0).wf = true ∧ v_.f1.size ≤ maxLen))) → (l1.length ≤ maxLen ∧ ∀ v_ ∈ l1, (Lit.int .i64 v_).wf = true) → (Lit.int .i64 a2).wf = true → (Lit.int .i64 a3).wf = true → ∃ k, busbarlaw15_ConfChecks.f k x0.f0 x0.f1 x0.f2 x0.f3 x0.f4 x0.f5 x0.f6 x0.f7 x0.f8 x0.f9 x0.f10 x0.f11 x0.f12 l1 a2 a3 a4 = some true
end Go.Proofs.Ytjlbgopgeepiaaa.PConf
