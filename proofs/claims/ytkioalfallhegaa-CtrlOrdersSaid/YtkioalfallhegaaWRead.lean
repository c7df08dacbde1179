/- A law's arguments, read as the kinds tell them (this session's). -/
import Derived.Test.YtkioalfallhegaaWWords
import Derived.Deep.Slices
import Derived.Deep.Fields
import Derived.ChangeSame
import Derived.OpenShut
set_option linter.unusedVariables false
set_option linter.unusedSimpArgs false
namespace Go.Proofs.YtkioalfallhegaaW.PrintWords
open Go.RowKit Go.ChangeShapes Go.WideShapes Go.Deep
section
variable {H : Type} {enc : TypeId × Value → H} {P : Program} {w : World} {base : Nat} {spare : Nat → Bool} {held : Bool}
/-- Data of type t are what the kind tells; Q is known of each. -/
def Rdk {α : Type} (enc : TypeId × Value → H) (P : Program) (w : World) (base : Nat) (spare : Nat → Bool) (held : Bool) (t : TypeId) (d : Kd α) (Q : α → Prop) : Prop :=
  ∀ (fuel : Nat) (cs : List Value) (x : DataW H × List MemPlace), DataW.trod enc P w base spare held fuel t cs = some x → ∃ v, d.K w v cs ∧ Q v
theorem rdk_int {t : TypeId} {k : IntKind} (hu : P.underlying t = some (.int k)) : Rdk enc P w base spare held t (Kd.int k) (fun v => (Lit.int k v).wf = true) := fun fuel cs x h => by
  obtain ⟨n, rfl, _, hw⟩ := DataW.trod_int hu h
  exact ⟨n, rfl, hw⟩
theorem rdk_bool {t : TypeId} (hu : P.underlying t = some .bool) : Rdk enc P w base spare held t Kd.bool (fun _ => True) := fun fuel cs x h => by
  obtain ⟨n, rfl, _⟩ := DataW.trod_bool hu h
  exact ⟨n, rfl, trivial⟩
theorem rdk_str {t : TypeId} (hu : P.underlying t = some .string) : Rdk enc P w base spare held t Kd.string (fun v => v.size ≤ maxLen) := fun fuel cs x h => by
  obtain ⟨s, rfl, _, hw⟩ := DataW.trod_string hu h
  exact ⟨s, rfl, hw⟩
theorem rdk_row {α : Type} {d : Kd α} {Q : α → Prop} {A : Addr} {e : TypeId} {m : Nat} (hC : P.cellsOf e = d.sz) (he : Rdk enc P w base spare held e d Q)
    (hi : ∀ i, i < m → ∃ (cs' : List Value) (n : Nat) (x : DataW H × List MemPlace), w.cells? base (A.add (i * P.cellsOf e)) (P.cellsOf e) = some cs' ∧ DataW.trod enc P w base spare held n e cs' = some x) :
    ∀ len, len ≤ m → ∃ xs : List α, xs.length = len ∧ (∀ v ∈ xs, Q v) ∧ ∀ j p, xs[j]? = some p → ∃ c, c.length = d.sz ∧ d.K w p c ∧ ∀ i u, c[i]? = some u → w.cell? (A.add (j * d.sz + i)) = some u
  | 0, _ => ⟨[], rfl, by simp, by simp⟩
  | len + 1, hl => by
    obtain ⟨xs, h1, h2, h3⟩ := rdk_row hC he hi len (by omega)
    obtain ⟨cs', n, x, hc, ht⟩ := hi len (by omega)
    obtain ⟨v, hv, hq⟩ := he n cs' x ht
    obtain ⟨_, hcl, hat⟩ := World.cells?_some hc
    rw [hC] at hcl hat
    refine ⟨xs ++ [v], by simp [h1], fun y hy => ?_, fun j p hp => ?_⟩
    · rcases List.mem_append.1 hy with hy | hy
      · exact h2 y hy
      · rw [List.mem_singleton.1 hy]; exact hq
    · rcases Nat.lt_or_ge j xs.length with hj | hj
      · rw [List.getElem?_append_left hj] at hp
        exact h3 j p hp
      · rw [List.getElem?_append_right hj] at hp
        have h0 : j - xs.length = 0 := by
          have := (List.getElem?_eq_some_iff.1 hp).1
          simp at this
          omega
        rw [h0] at hp
        simp only [List.getElem?_cons_zero, Option.some.injEq] at hp
        subst hp
        have hj2 : j = len := by omega
        subst hj2
        refine ⟨cs', hcl, hv, fun i u hu => ?_⟩
        have hil : i < d.sz := by
          have := (List.getElem?_eq_some_iff.1 hu).1
          omega
        have := hat i hil
        rw [← Go.Deep.add_add, this]
        exact hu
theorem rdk_arg {α : Type} {d : Kd α} {Q : α → Prop} {t e : TypeId} (hu : P.underlying t = some (.slice e)) (hC : P.cellsOf e = d.sz) (he : Rdk enc P w base spare held e d Q)
    {fuel : Nat} {A : Option Addr} {n c : Nat} {x : DataW H × List MemPlace} (h : DataW.trod enc P w base spare held fuel t [.slice A n c] = some x) :
    ∃ xs : List α, n = xs.length ∧ d.C w A xs.length xs ∧ xs.length ≤ c ∧ xs.length ≤ maxLen ∧ ∀ v ∈ xs, Q v := by
  rcases open_slice hu h with ⟨hcs, _⟩ | ⟨a, len, cap, m, k, D, Pl, hcs, _, hl, hm, hmm, _, hi⟩
  · simp only [List.cons.injEq, and_true] at hcs
    injection hcs with h1 h2 h3
    subst h1; subst h2; subst h3
    exact ⟨[], rfl, ⟨rfl, by simp, by simp⟩, by simp, by simp, by simp⟩
  · simp only [List.cons.injEq, and_true] at hcs
    injection hcs with h1 h2 h3
    subst h1; subst h2; subst h3
    have hlm : n ≤ m := by
      rw [hmm]
      split <;> omega
    obtain ⟨xs, h1, h2, h3⟩ := rdk_row (d := d) (Q := Q) hC he (fun i hi' => by
      obtain ⟨cs', h4, h5⟩ := hi i hi'
      exact ⟨cs', k, _, h4, h5⟩) n hlm
    refine ⟨xs, h1.symm, ⟨rfl, ?_, fun _ => ⟨a, rfl, h3⟩⟩, by omega, by omega, h2⟩
    unfold maxLen at hm
    omega
theorem rdk_slice {α : Type} {d : Kd α} {Q : α → Prop} {t e : TypeId} (hu : P.underlying t = some (.slice e)) (hC : P.cellsOf e = d.sz) (he : Rdk enc P w base spare held e d Q) (e' : Nat) :
    Rdk enc P w base spare held t (Kd.slice e' d) (fun xs => xs.length ≤ maxLen ∧ ∀ v ∈ xs, Q v) := fun fuel cs x h => by
  have hcs : ∃ A n c, cs = [.slice A n c] := by
    rcases open_slice hu h with ⟨hcs, _⟩ | ⟨a, len, cap, m, k, D, Pl, hcs, _⟩
    · exact ⟨_, _, _, hcs⟩
    · exact ⟨_, _, _, hcs⟩
  obtain ⟨A, n, c, rfl⟩ := hcs
  obtain ⟨xs, h1, h2, h3, h4, h5⟩ := rdk_arg hu hC he h
  subst h1
  exact ⟨xs, ⟨A, c, rfl, h3, h2⟩, h4, h5⟩
end
end Go.Proofs.YtkioalfallhegaaW.PrintWords
