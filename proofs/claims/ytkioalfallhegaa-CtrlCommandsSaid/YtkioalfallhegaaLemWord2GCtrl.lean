/- What the words' functions answer, at any number of words. -/
import Derived.Test.YtkioalfallhegaaPCtrlx0
import Derived.Test.YtkioalfallhegaaPCtrlx17
import Derived.Test.YtkioalfallhegaaPCtrlx2
import Derived.Test.YtkioalfallhegaaLemSplitGCtrl
set_option linter.unusedVariables false
namespace Go.Proofs.Ytkioalfallhegaa.LemWord2GCtrl
open Go.RowKit Go.Proofs.Ytkioalfallhegaa.PCtrl Go.Proofs.YtkioalfallhegaaW.PrintWords Go.Proofs.YtkioalfallhegaaW.PrintLast Go.Proofs.YtkioalfallhegaaW.PrintMore Go.Proofs.Ytkioalfallhegaa.Num Go.Proofs.Ytkioalfallhegaa.LemWordGCtrl Go.Proofs.Ytkioalfallhegaa.LemSplitGCtrl

def ord (little : Bool) (l : List Int) : List Int := if little then l.reverse else l
theorem ord_length (little : Bool) (l : List Int) : (ord little l).length = l.length := by cases little <;> simp [ord]
theorem ord_w16 (little : Bool) {l : List Int} (h : W16 l) : W16 (ord little l) := by
  cases little
  · exact h
  · intro x hx; exact h x (by simpa [ord] using hx)
theorem pw4 (i : Nat) (h : i ≤ 4) : pw i ≤ 18446744073709551616 := by
  match i, h with
  | 0, _ => decide
  | 1, _ => decide
  | 2, _ => decide
  | 3, _ => decide
  | 4, _ => decide
theorem split_all (v : Int) (h0 : 0 ≤ v) (h1 : v < 18446744073709551616) (n : Nat) (hn : 1 ≤ n) (h4 : n ≤ 4) (little : Bool) {k : Nat} (hk : 10 ≤ k) : word_Split.f k v (n : Int) little = some (splitted v n little) := by
  refine at_rounds (word_Split.mono v n little) hk ?_
  match n, hn, h4 with
  | 1, _, _ => cases little; exact split1false v h0 h1; exact split1true v h0 h1
  | 2, _, _ => cases little; exact split2false v h0 h1; exact split2true v h0 h1
  | 3, _, _ => cases little; exact split3false v h0 h1; exact split3true v h0 h1
  | 4, _, _ => cases little; exact split4false v h0 h1; exact split4true v h0 h1
theorem split_out (v n : Int) (little : Bool) (h : n < 1 ∨ 4 < n) {k : Nat} (hk : 10 ≤ k) : word_Split.f k v n little = some ([], false) := by
  obtain ⟨k, rfl⟩ : ∃ m, k = m + 1 := ⟨k - 1, by omega⟩
  unfold word_Split.f
  by_cases h1 : n < 1
  · rw [if_pos h1]; simp [word_Split.j0]
  · rw [if_neg h1, if_pos (by omega)]; simp [word_Split.j0]
theorem refsplit_all (v : Int) (h0 : 0 ≤ v) (h1 : v < 18446744073709551616) (n : Nat) (hn : 1 ≤ n) (h4 : n ≤ 4) (little : Bool) {k : Nat} (hk : 10 ≤ k) : busbarref1_Split.f k v (n : Int) little = some (splitted v n little) := by
  refine at_rounds (busbarref1_Split.mono v n little) hk ?_
  match n, hn, h4 with
  | 1, _, _ => cases little; exact refsplit1false v h0 h1; exact refsplit1true v h0 h1
  | 2, _, _ => cases little; exact refsplit2false v h0 h1; exact refsplit2true v h0 h1
  | 3, _, _ => cases little; exact refsplit3false v h0 h1; exact refsplit3true v h0 h1
  | 4, _, _ => cases little; exact refsplit4false v h0 h1; exact refsplit4true v h0 h1
theorem refsplit_out (v n : Int) (little : Bool) (h : n < 1 ∨ 4 < n) {k : Nat} (hk : 10 ≤ k) : busbarref1_Split.f k v n little = some ([], false) := by
  obtain ⟨k, rfl⟩ : ∃ m, k = m + 1 := ⟨k - 1, by omega⟩
  unfold busbarref1_Split.f
  by_cases h1 : n < 1
  · rw [if_pos h1]; simp [busbarref1_Split.j0]
  · rw [if_neg h1, decide_eq_true (by omega)]; simp [busbarref1_Split.j0]
end Go.Proofs.Ytkioalfallhegaa.LemWord2GCtrl
