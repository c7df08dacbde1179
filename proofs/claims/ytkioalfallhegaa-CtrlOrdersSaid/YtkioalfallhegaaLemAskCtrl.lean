/- A request by two numbers is one (group Ctrl). -/
import Derived.Test.YtkioalfallhegaaPCtrlx0
import Derived.Test.YtkioalfallhegaaPCtrlx11
import Derived.Test.YtkioalfallhegaaPCtrlx12
import Derived.Test.YtkioalfallhegaaLemDigitCtrl
set_option linter.unusedVariables false
set_option linter.unusedSimpArgs false
namespace Go.Proofs.Ytkioalfallhegaa.LemAskCtrl
open Go.RowKit Go.Proofs.Ytkioalfallhegaa.PCtrl Go.Proofs.YtkioalfallhegaaW.PrintWords Go.Proofs.YtkioalfallhegaaW.PrintLast Go.Proofs.YtkioalfallhegaaW.PrintMore Go.Proofs.Ytkioalfallhegaa.Num Go.Proofs.Ytkioalfallhegaa.LemWithinCtrl Go.Proofs.Ytkioalfallhegaa.LemDigitCtrl

theorem words_loop (v n : Int) (hn : n ≤ 100) : ∀ (d : Nat) (i : Int) (l : List Int) (k : Nat), 0 ≤ i → n - i ≤ d → l.length ≤ 1000 - d → d ≤ 100 → d < k → ∃ r, busbarlaw0_words.l0 k v n l i = some r
  | d, i, l, k, hi, h, hl, hd, hk => by
    obtain ⟨k, rfl⟩ : ∃ m, k = m + 1 := ⟨k - 1, by omega⟩
    rw [busbarlaw0_words.l0]
    by_cases hc : i < n
    · rw [if_pos hc, within_eq v 60000 (by omega) (by omega), Option.bind_some, if_pos (by omega), wrap64_id (x := i + 1) (by omega) (by omega)]
      match d, h, hl, hd, hk with
      | 0, h, _, _, _ => omega
      | d + 1, h, hl, hd, hk => exact words_loop v n hn d (i + 1) _ k (by omega) (by omega) (by rw [List.length_append, List.length_singleton]; omega) (by omega) (by omega)
    · rw [if_neg hc]
      exact ⟨_, rfl⟩
theorem words_some (v n : Int) (hn : n ≤ 40) {k : Nat} (hk : 42 ≤ k) : ∃ r, busbarlaw0_words.f k v n = some r := words_loop v n (by omega) 40 0 [] k (by omega) (by omega) (by simp) (by omega) (by omega)
theorem bits_loop (v n : Int) (hn : n ≤ 100) (a0 a1 a2 a3 a4 a5 a8 a9 a10 a11 : Int) : ∀ (d : Nat) (i : Int) (l : List Bool) (k : Nat), 0 ≤ i → n - i ≤ d → l.length ≤ 1000 - d → d ≤ 100 → d < k → ∃ r, busbarlaw0_Ask.l0 k v n i a0 a1 a2 a3 a4 a5 l a8 a9 a10 a11 = some r
  | d, i, l, k, hi, h, hl, hd, hk => by
    obtain ⟨k, rfl⟩ : ∃ m, k = m + 1 := ⟨k - 1, by omega⟩
    rw [busbarlaw0_Ask.l0]
    by_cases hc : i < n
    · rw [if_pos hc, wrap64_id (x := 7 + i) (by omega) (by omega), within_eq v (7 + i) (by omega) (by omega), Option.bind_some, if_pos (by omega), wrap64_id (x := i + 1) (by omega) (by omega)]
      match d, h, hl, hd, hk with
      | 0, h, _, _, _ => omega
      | d + 1, h, hl, hd, hk => exact bits_loop v n hn a0 a1 a2 a3 a4 a5 a8 a9 a10 a11 d (i + 1) _ k (by omega) (by omega) (by rw [List.length_append, List.length_singleton]; omega) (by omega) (by omega)
    · rw [if_neg hc]
      exact ⟨_, rfl⟩
theorem j5_some (v n y : Int) (hv : -9223372036854775808 ≤ v ∧ v < 9223372036854775808) (hn : n ≤ 40) (b : Bool) (a0 a1 a2 a3 a4 a5 a8 a9 a10 a11 : Int) {k : Nat} (hk : 45 ≤ k) : ∃ r, busbarlaw0_Ask.j5 k v n y b a0 a1 a2 a3 a4 a5 a8 a9 a10 a11 = some r := by
  obtain ⟨k, rfl⟩ : ∃ m, k = m + 1 := ⟨k - 1, by omega⟩
  obtain ⟨l, hl⟩ := words_some v n hn (k := k) (by omega)
  rw [busbarlaw0_Ask.j5]
  split
  · rw [hl, Option.bind_some]; exact ⟨_, rfl⟩
  · split
    · rw [within_eq v 65536 (by omega) (by omega), Option.bind_some, digit_eq v 65536 65536 hv (by omega) (by omega) (by omega), Option.bind_some]; exact ⟨_, rfl⟩
    · split
      · rw [hl, Option.bind_some, within_eq v 40 (by omega) (by omega), Option.bind_some, digit_eq v 40 6 hv (by omega) (by omega) (by omega), Option.bind_some]; exact ⟨_, rfl⟩
      · rw [within_eq v 4 (by omega) (by omega), Option.bind_some, digit_eq v 4 5 hv (by omega) (by omega) (by omega), Option.bind_some]; exact ⟨_, rfl⟩
theorem j3_some (v n : Int) (hn : n ≤ 40) (a0 a1 a2 a3 a4 a5 a8 a9 a10 a11 : Int) {k : Nat} (hk : 45 ≤ k) : ∃ r, busbarlaw0_Ask.j3 k v n a0 a1 a2 a3 a4 a5 a8 a9 a10 a11 = some r := by
  obtain ⟨k, rfl⟩ : ∃ m, k = m + 1 := ⟨k - 1, by omega⟩
  rw [busbarlaw0_Ask.j3]
  exact bits_loop v n (by omega) _ _ _ _ _ _ _ _ _ _ 40 0 [] k (by omega) (by omega) (by simp) (by omega) (by omega)
theorem j2_some (x v n y : Int) (hx : -9223372036854775808 ≤ x ∧ x < 9223372036854775808) (hv : -9223372036854775808 ≤ v ∧ v < 9223372036854775808) (h0 : 0 ≤ n) (hn : n ≤ 6) (b : Bool) (a0 a1 a2 a3 a4 a5 a8 a9 a10 a11 : Int) {k : Nat} (hk : 46 ≤ k) : ∃ r, busbarlaw0_Ask.j2 k x v n y b a0 a1 a2 a3 a4 a5 a8 a9 a10 a11 = some r := by
  obtain ⟨k, rfl⟩ : ∃ m, k = m + 1 := ⟨k - 1, by omega⟩
  rw [busbarlaw0_Ask.j2]
  split
  · rw [within_eq v 60000 (by omega) (by omega), Option.bind_some]; exact ⟨_, rfl⟩
  · split
    · rw [digit_eq v 64 3 hv (by omega) (by omega) (by omega), Option.bind_some]
      split
      · rw [digit_eq x 16 20 hx (by omega) (by omega) (by omega), Option.bind_some, wrap64_id (x := 14 + n) (by omega) (by omega)]
        exact j3_some v (14 + n) (by omega) _ _ _ _ _ _ _ _ _ _ (by omega)
      · exact j3_some v n (by omega) _ _ _ _ _ _ _ _ _ _ (by omega)
    · split
      · exact j5_some v n _ hv (by omega) _ _ _ _ _ _ _ _ _ _ _ (by omega)
      · exact j5_some v n _ hv (by omega) _ _ _ _ _ _ _ _ _ _ _ (by omega)
theorem j1_some (x v n y : Int) (hx : -9223372036854775808 ≤ x ∧ x < 9223372036854775808) (hv : -9223372036854775808 ≤ v ∧ v < 9223372036854775808) (h0 : 0 ≤ n) (hn : n ≤ 6) (b : Bool) (a0 a1 a2 a3 a4 a5 a8 a9 a10 a11 : Int) {k : Nat} (hk : 47 ≤ k) : ∃ r, busbarlaw0_Ask.j1 k x v n y b a0 a1 a2 a3 a4 a5 a8 a9 a10 a11 = some r := by
  obtain ⟨k, rfl⟩ : ∃ m, k = m + 1 := ⟨k - 1, by omega⟩
  rw [busbarlaw0_Ask.j1]
  split
  · exact ⟨_, rfl⟩
  · split
    · exact ⟨_, rfl⟩
    · split
      · rw [within_eq v 2 (by omega) (by omega), Option.bind_some]; exact ⟨_, rfl⟩
      · split
        · exact j2_some x v n _ hx hv h0 hn _ _ _ _ _ _ _ _ _ _ _ (by omega)
        · split <;> exact j2_some x v n _ hx hv h0 hn _ _ _ _ _ _ _ _ _ _ _ (by omega)
theorem j0_some (x v at_ n : Int) (hx : -9223372036854775808 ≤ x ∧ x < 9223372036854775808) (hv : -9223372036854775808 ≤ v ∧ v < 9223372036854775808) (h0 : 0 ≤ n) (hn : n ≤ 6) {k : Nat} (hk : 48 ≤ k) : ∃ r, busbarlaw0_Ask.j0 k x v at_ n = some r := by
  obtain ⟨k, rfl⟩ : ∃ m, k = m + 1 := ⟨k - 1, by omega⟩
  rw [busbarlaw0_Ask.j0, within_eq x 16 (by omega) (by omega), Option.bind_some]
  split
  · exact ⟨_, rfl⟩
  · split
    · exact ⟨_, rfl⟩
    · split
      · exact j1_some x v n _ hx hv h0 hn _ _ _ _ _ _ _ _ _ _ _ (by omega)
      · split <;> exact j1_some x v n _ hx hv h0 hn _ _ _ _ _ _ _ _ _ _ _ (by omega)
theorem ask_some (x v : Int) (hx : -9223372036854775808 ≤ x ∧ x < 9223372036854775808) (hv : -9223372036854775808 ≤ v ∧ v < 9223372036854775808) {k : Nat} (hk : 48 ≤ k) : ∃ r, busbarlaw0_Ask.f k x v = some r := by
  have n0 := Int.emod_nonneg (Int.tdiv x 640) (show (6 : Int) ≠ 0 by omega)
  have n1 := Int.emod_lt_of_pos (Int.tdiv x 640) (show (0 : Int) < 6 by omega)
  unfold busbarlaw0_Ask.f
  rw [digit_eq x 16 40 hx (by omega) (by omega) (by omega), Option.bind_some, digit_eq x 640 6 hx (by omega) (by omega) (by omega), Option.bind_some, digit_eq x 3840 12 hx (by omega) (by omega) (by omega), Option.bind_some, wrap64_id (x := 1 + Int.tdiv x 640 % 6) (by omega) (by omega)]
  split
  · rw [digit_eq x 46080 65536 hx (by omega) (by omega) (by omega), Option.bind_some]
    exact j0_some x v _ _ hx hv (by omega) (by omega) hk
  · exact j0_some x v _ _ hx hv (by omega) (by omega) hk
end Go.Proofs.Ytkioalfallhegaa.LemAskCtrl
