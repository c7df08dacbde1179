/- What the words' functions answer, at any number of words. -/
import Derived.Test.YtmbkbpaoiilicaaPGroupLx0
import Derived.Test.YtmbkbpaoiilicaaPGroupLx11
import Derived.Test.YtmbkbpaoiilicaaPGroupLx12
import Derived.Test.YtmbkbpaoiilicaaPGroupLx13
import Derived.Test.YtmbkbpaoiilicaaLemSplitGGroupL
set_option linter.unusedVariables false
namespace Go.Proofs.Ytmbkbpaoiilicaa.LemWord2GGroupL
open Go.RowKit Go.Proofs.Ytmbkbpaoiilicaa.PGroupL Go.Proofs.YtmbkbpaoiilicaaW.PrintWords Go.Proofs.YtmbkbpaoiilicaaW.PrintLast Go.Proofs.YtmbkbpaoiilicaaW.PrintMore Go.Proofs.Ytmbkbpaoiilicaa.Num Go.Proofs.Ytmbkbpaoiilicaa.LemWordGGroupL Go.Proofs.Ytmbkbpaoiilicaa.LemSplitGGroupL

def ord (little : Bool) (l : List Int) : List Int := if little then l.reverse else l
theorem ord_length (little : Bool) (l : List Int) : (ord little l).length = l.length := by cases little <;> simp [ord]
theorem ord_w16 (little : Bool) {l : List Int} (h : W16 l) : W16 (ord little l) := by
  cases little
  · exact h
  · intro x hx; exact h x (by simpa [ord] using hx)
theorem pw4 (i : Nat) (h : i ≤ 4) : pw i ≤ 18446744073709551616 := by
  match i, h with
  | 0, _ => decide
  | 1, _ => decide
  | 2, _ => decide
  | 3, _ => decide
  | 4, _ => decide
theorem refjoin_loop (l : List Int) (hw : W16 l) (hl : l.length ≤ 4) (little : Bool) : ∀ (d i k : Nat), i + d = l.length → d < k →
    busbarref1_Join.l0 k l little (big ((ord little l).take i)) (i : Int) = some (big (ord little l), true)
  | 0, i, k, h, hk => by
    obtain ⟨k, rfl⟩ : ∃ m, k = m + 1 := ⟨k - 1, by omega⟩
    rw [busbarref1_Join.l0, if_neg (by omega), List.take_of_length_le (by rw [ord_length]; omega)]
  | d + 1, i, k, h, hk => by
    obtain ⟨k, rfl⟩ : ∃ m, k = m + 1 := ⟨k - 1, by omega⟩
    have hi : i < (ord little l).length := by rw [ord_length]; omega
    have ht := List.take_succ_eq_append_getElem hi
    have hb0 := big_bound ((ord little l).take i) (fun x hx => ord_w16 little hw x (List.mem_of_mem_take hx))
    have hb1 := big_bound ((ord little l).take (i + 1)) (fun x hx => ord_w16 little hw x (List.mem_of_mem_take hx))
    rw [List.length_take, ord_length, Nat.min_eq_left (by omega)] at hb0 hb1
    have p0 := pw4 (i + 1) (by omega)
    have hx := ord_w16 little hw (ord little l)[i] (List.getElem_mem _)
    have hs : big ((ord little l).take (i + 1)) = big ((ord little l).take i) * 65536 + (ord little l)[i] := by rw [ht, big_snoc]
    have hpw : pw (i + 1) = pw i * 65536 := rfl
    rw [busbarref1_Join.l0, if_pos (by omega)]
    have step : ∀ y : Int, y = (ord little l)[i] → IntKind.u64.wrap ((IntKind.u64.wrap (big ((ord little l).take i) * 65536)) + (IntKind.u64.wrap y)) = big ((ord little l).take (i + 1)) := by
      intro y hy
      rw [hy, u64_id (x := (ord little l)[i]) hx.1 (by omega), u64_id (x := big ((ord little l).take i) * 65536) (by omega) (by omega), ← hs, u64_id (by omega) (by omega)]
    have ih := refjoin_loop l hw hl little d (i + 1) k (by omega) (by omega)
    cases little with
    | false =>
      simp only [Bool.false_eq_true, if_false]
      rw [if_pos (by omega), step _ (by rw [rd_get l i (by omega)]; rfl), wrap64_id (by omega) (by omega), show ((i : Int) + 1) = ((i + 1 : Nat) : Int) by omega]
      exact ih
    | true =>
      simp only [if_true]
      have e : wrap64 (wrap64 ((l.length : Int) - 1) - (i : Int)) = ((l.length - 1 - i : Nat) : Int) := by
        rw [wrap64_id (x := (l.length : Int) - 1) (by omega) (by omega), wrap64_id (by omega) (by omega)]; omega
      rw [e, if_pos (by omega), if_pos (by omega), step _ (by rw [rd_get l _ (by omega)]; simp [ord]), wrap64_id (by omega) (by omega), show ((i : Int) + 1) = ((i + 1 : Nat) : Int) by omega]
      exact ih
theorem refjoin_some (l : List Int) (hw : W16 l) (h1 : 1 ≤ l.length) (hl : l.length ≤ 4) (little : Bool) {k : Nat} (hk : 8 ≤ k) : busbarref1_Join.f k l little = some (big (ord little l), true) := by
  obtain ⟨k, rfl⟩ : ∃ m, k = m + 1 := ⟨k - 1, by omega⟩
  unfold busbarref1_Join.f
  rw [if_neg (by omega), decide_eq_false (by omega), busbarref1_Join.j0]
  simp only [Bool.false_eq_true, if_false]
  exact refjoin_loop l hw hl little l.length 0 k (by omega) (by omega)
theorem refjoin_out (l : List Int) (little : Bool) (h : l.length = 0 ∨ 4 < l.length) {k : Nat} (hk : 8 ≤ k) : busbarref1_Join.f k l little = some (0, false) := by
  obtain ⟨k, rfl⟩ : ∃ m, k = m + 1 := ⟨k - 1, by omega⟩
  unfold busbarref1_Join.f
  rcases h with h | h
  · rw [if_pos (by omega)]; simp [busbarref1_Join.j0]
  · rw [if_neg (by omega), decide_eq_true (by omega)]; simp [busbarref1_Join.j0]
theorem split_all (v : Int) (h0 : 0 ≤ v) (h1 : v < 18446744073709551616) (n : Nat) (hn : 1 ≤ n) (h4 : n ≤ 4) (little : Bool) {k : Nat} (hk : 10 ≤ k) : word_Split.f k v (n : Int) little = some (splitted v n little) := by
  refine at_rounds (word_Split.mono v n little) hk ?_
  match n, hn, h4 with
  | 1, _, _ => cases little; exact split1false v h0 h1; exact split1true v h0 h1
  | 2, _, _ => cases little; exact split2false v h0 h1; exact split2true v h0 h1
  | 3, _, _ => cases little; exact split3false v h0 h1; exact split3true v h0 h1
  | 4, _, _ => cases little; exact split4false v h0 h1; exact split4true v h0 h1
theorem split_out (v n : Int) (little : Bool) (h : n < 1 ∨ 4 < n) {k : Nat} (hk : 10 ≤ k) : word_Split.f k v n little = some ([], false) := by
  obtain ⟨k, rfl⟩ : ∃ m, k = m + 1 := ⟨k - 1, by omega⟩
  unfold word_Split.f
  by_cases h1 : n < 1
  · rw [if_pos h1]; simp [word_Split.j0]
  · rw [if_neg h1, if_pos (by omega)]; simp [word_Split.j0]
theorem refsplit_all (v : Int) (h0 : 0 ≤ v) (h1 : v < 18446744073709551616) (n : Nat) (hn : 1 ≤ n) (h4 : n ≤ 4) (little : Bool) {k : Nat} (hk : 10 ≤ k) : busbarref1_Split.f k v (n : Int) little = some (splitted v n little) := by
  refine at_rounds (busbarref1_Split.mono v n little) hk ?_
  match n, hn, h4 with
  | 1, _, _ => cases little; exact refsplit1false v h0 h1; exact refsplit1true v h0 h1
  | 2, _, _ => cases little; exact refsplit2false v h0 h1; exact refsplit2true v h0 h1
  | 3, _, _ => cases little; exact refsplit3false v h0 h1; exact refsplit3true v h0 h1
  | 4, _, _ => cases little; exact refsplit4false v h0 h1; exact refsplit4true v h0 h1
theorem refsplit_out (v n : Int) (little : Bool) (h : n < 1 ∨ 4 < n) {k : Nat} (hk : 10 ≤ k) : busbarref1_Split.f k v n little = some ([], false) := by
  obtain ⟨k, rfl⟩ : ∃ m, k = m + 1 := ⟨k - 1, by omega⟩
  unfold busbarref1_Split.f
  by_cases h1 : n < 1
  · rw [if_pos h1]; simp [busbarref1_Split.j0]
  · rw [if_neg h1, decide_eq_true (by omega)]; simp [busbarref1_Split.j0]
end Go.Proofs.Ytmbkbpaoiilicaa.LemWord2GGroupL
