/- Any words are a number, and any number is words, or not, as the document says; one leads back to the other: for every list of words, number and size. -/
import Derived.Test.YtmbkbpaoiilicaaLemWord2GGroupL
import Derived.Test.YtmbkbpaoiilicaaLemLentGroupL
import Derived.Test.YtmbkbpaoiilicaaLemSameWGroupL
import Derived.Test.YtmbkbpaoiilicaaLemWithinGroupL
import Derived.Test.YtmbkbpaoiilicaaLemAwakeGroupL
import Derived.Test.YtmbkbpaoiilicaaPGroupLx0
import Derived.Test.YtmbkbpaoiilicaaPGroupLx11
import Derived.Test.YtmbkbpaoiilicaaPGroupLx12
import Derived.Test.YtmbkbpaoiilicaaPGroupLx13
import Derived.Test.YtmbkbpaoiilicaaPGroupLx15
import Derived.Test.YtmbkbpaoiilicaaPGroupLx7
namespace Go.Proofs.Ytmbkbpaoiilicaa.Pure
open Go.RowKit Go.Proofs.Ytmbkbpaoiilicaa.PGroupL Go.Proofs.YtmbkbpaoiilicaaW.PrintWords Go.Proofs.YtmbkbpaoiilicaaW.PrintLast Go.Proofs.Ytmbkbpaoiilicaa.Num Go.Proofs.Ytmbkbpaoiilicaa.LemWordGGroupL Go.Proofs.Ytmbkbpaoiilicaa.LemSplitGGroupL Go.Proofs.Ytmbkbpaoiilicaa.LemWord2GGroupL Go.Proofs.Ytmbkbpaoiilicaa.LemLentGroupL Go.Proofs.Ytmbkbpaoiilicaa.LemSameWGroupL Go.Proofs.Ytmbkbpaoiilicaa.LemWithinGroupL

theorem sized_eq (n : Int) : group_sized.f n = some (decide (n = 2 ∨ n = 4)) := by
  unfold group_sized.f
  by_cases h : n = 2
  · rw [if_pos h, decide_eq_true (.inl h)]
  · rw [if_neg h]
    by_cases h4 : n = 4
    · rw [decide_eq_true (.inr h4), h4]; rfl
    · rw [decide_eq_false (by omega), beq_eq_false_iff_ne.2 h4]
def gval (l : List Int) : Int × Bool := if l.length = 2 ∨ l.length = 4 then (big l, true) else (0, false)
def gwords (v n : Int) : List Int × Bool := if n = 2 ∨ n = 4 then splitted v n.toNat false else ([], false)
theorem value_eq (l : List Int) (hw : W16 l) {k : Nat} (hk : 8 ≤ k) : group_Value.f k l = some (gval l) := by
  unfold group_Value.f gval
  rw [sized_eq, Option.bind_some]
  by_cases h : l.length = 2 ∨ l.length = 4
  · rw [decide_eq_true (by omega), if_pos rfl, if_pos h, join_some l hw (by omega) (by omega) false hk]
    rfl
  · rw [decide_eq_false (by omega), if_neg (by decide), if_neg h]
theorem refvalue_eq (l : List Int) (hw : W16 l) {k : Nat} (hk : 8 ≤ k) : busbarref12_Value.f k l = some (gval l) := by
  unfold busbarref12_Value.f gval
  by_cases h2 : l.length = 2
  · rw [if_pos (by omega), if_pos (.inl h2), refjoin_some l hw (by omega) (by omega) false hk]
    rfl
  · rw [if_neg (by omega)]
    by_cases h4 : l.length = 4
    · rw [if_pos (by omega), if_pos (.inr h4), refjoin_some l hw (by omega) (by omega) false hk]
      rfl
    · rw [if_neg (by omega), if_neg (by omega)]
theorem words_eq (v n : Int) (h0 : 0 ≤ v) (h1 : v < 18446744073709551616) {k : Nat} (hk : 10 ≤ k) : group_Words.f k v n = some (gwords v n) := by
  unfold group_Words.f gwords
  rw [sized_eq, Option.bind_some]
  by_cases h : n = 2 ∨ n = 4
  · rw [decide_eq_true h, if_pos rfl, if_pos h]
    have := split_all v h0 h1 n.toNat (by omega) (by omega) false hk
    rw [Int.toNat_of_nonneg (by omega)] at this
    rw [this]
    rfl
  · rw [decide_eq_false h, if_neg (by decide), if_neg h]
theorem refwords_eq (v n : Int) (h0 : 0 ≤ v) (h1 : v < 18446744073709551616) {k : Nat} (hk : 10 ≤ k) : busbarref12_Words.f k v n = some (gwords v n) := by
  have e : n = 2 ∨ n = 4 → busbarref1_Split.f k v n false = some (splitted v n.toNat false) := fun h => by
    have := refsplit_all v h0 h1 n.toNat (by omega) (by omega) false hk
    rwa [Int.toNat_of_nonneg (by omega)] at this
  unfold busbarref12_Words.f gwords
  by_cases h2 : n = 2
  · rw [if_pos h2, if_pos (.inl h2), e (.inl h2)]; rfl
  · rw [if_neg h2]
    by_cases h4 : n = 4
    · rw [if_pos h4, if_pos (.inr h4), e (.inr h4)]; rfl
    · rw [if_neg h4, if_neg (by omega)]
theorem gwords_len (v n : Int) : (gwords v n).1.length ≤ 4 ∧ W16 (gwords v n).1 := by
  unfold gwords
  split
  · unfold splitted
    split
    · exact ⟨by simp, fun _ h => by simp at h⟩
    · refine ⟨?_, digs_w16 _ _⟩
      show (digs n.toNat v).length ≤ 4
      rw [digs_length]; omega
  · exact ⟨by simp, fun _ h => by simp at h⟩
theorem values_j3 (l : List Int) (hw : W16 l) (hl : l.length ≤ 40) (k : Nat) (hk : 100 ≤ k) : busbarlaw14_GroupValues.j3 (k + 1) l (gval l).1 (gval l).2 = some true := by
  unfold gval
  rw [busbarlaw14_GroupValues.j3]
  by_cases h : l.length = 2 ∨ l.length = 4
  · rw [if_pos h, if_pos rfl]
    have hb := big_bound l hw
    have hp := pw4 l.length (by omega)
    rw [words_eq _ _ hb.1 (by omega) (by omega), Option.bind_some]
    have e : gwords (big l) (l.length : Int) = (l, true) := by
      unfold gwords splitted
      rw [if_pos (by omega), Int.toNat_natCast, if_neg (by omega), digs_big l hw]
      rfl
    rw [e, if_pos rfl, samew_eq l (by omega) (by omega)]
    rfl
  · rw [if_neg h]
    rfl
theorem values_j1 (l : List Int) (hw : W16 l) (hl : l.length ≤ 40) (v n : Int) (h0 : 0 ≤ v) (h1 : v < 18446744073709551616) (k : Nat) (hk : 200 ≤ k) : busbarlaw14_GroupValues.j1 (k + 3) l v n = some true := by
  have hg := gwords_len v n
  rw [busbarlaw14_GroupValues.j1, lent_eq l (by omega) (by omega), Option.bind_some, value_eq l hw (by omega), Option.bind_some, refvalue_eq l hw (by omega), Option.bind_some,
    words_eq v n h0 h1 (by omega), Option.bind_some, refwords_eq v n h0 h1 (by omega), Option.bind_some, if_pos rfl, if_neg (by simp), samew_eq _ (by omega) (by omega), Option.bind_some, if_pos rfl, if_neg (by simp),
    stays_eq l (by omega) (by omega), Option.bind_some, busbarlaw14_GroupValues.j2, if_neg (by decide)]
  by_cases hi : (gwords v n).2 = true
  · rw [if_pos hi, value_eq _ hg.2 (by omega), Option.bind_some]
    have e : gval (gwords v n).1 = (v, true) := by
      unfold gwords at hi ⊢
      by_cases h : n = 2 ∨ n = 4
      · rw [if_pos h] at hi ⊢
        unfold splitted at hi ⊢
        by_cases hp : pw n.toNat ≤ v
        · rw [if_pos hp] at hi; cases hi
        · rw [if_neg hp]
          show gval (digs n.toNat v) = _
          unfold gval
          rw [digs_length, if_pos (by omega), big_digs _ _ h0 (by omega)]
      · rw [if_neg h] at hi; cases hi
    rw [e, if_pos rfl, if_pos rfl]
    exact values_j3 l hw hl k (by omega)
  · rw [if_neg hi]
    exact values_j3 l hw hl k (by omega)
theorem GroupValues : busbarlaw14_GroupValues.Pure := by
  intro l v n near _ _ hw hv hn
  have hw := w16_of hw
  have hv := wf_u64 hv
  refine ⟨1000, ?_⟩
  unfold busbarlaw14_GroupValues.f
  by_cases h : (l.length : Int) > 40
  · rw [if_pos h, busbarlaw14_GroupValues.j0, if_pos rfl, LemAwakeGroupL.awake_ev (by omega)]
    rfl
  · rw [if_neg h, LemAwakeGroupL.awake_ev (by omega), Option.bind_some, busbarlaw14_GroupValues.j0, if_neg (by decide)]
    cases near
    · rw [if_neg (by decide)]
      exact values_j1 l hw (by omega) v n hv.1 hv.2 996 (by omega)
    · rw [if_pos rfl, within_eq n 6 (by omega) (by omega), Option.bind_some]
      exact values_j1 l hw (by omega) v (n % 6) hv.1 hv.2 996 (by omega)
end Go.Proofs.Ytmbkbpaoiilicaa.Pure
