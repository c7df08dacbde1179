/- Of groups that may be, any key's group, and whether any span splits one, is what the document says: for all numbers and keys. -/
import Derived.Test.YtmbkbpaoiilicaaLemGAtGroupA
import Derived.Test.YtmbkbpaoiilicaaLemDigitGroupA
import Derived.Test.YtmbkbpaoiilicaaLemAwakeGroupA
import Derived.Test.YtmbkbpaoiilicaaPGroupAx0
import Derived.Test.YtmbkbpaoiilicaaPGroupAx17
import Derived.Test.YtmbkbpaoiilicaaPGroupAx18
import Derived.Test.YtmbkbpaoiilicaaPGroupAx22
namespace Go.Proofs.Ytmbkbpaoiilicaa.Pure
open Go.RowKit Go.Proofs.Ytmbkbpaoiilicaa.PGroupA Go.Proofs.YtmbkbpaoiilicaaW.PrintWords Go.Proofs.YtmbkbpaoiilicaaW.PrintLast Go.Proofs.Ytmbkbpaoiilicaa.Num Go.Proofs.Ytmbkbpaoiilicaa.LemWithinGroupA Go.Proofs.Ytmbkbpaoiilicaa.LemDigitGroupA Go.Proofs.Ytmbkbpaoiilicaa.LemGroupGroupA Go.Proofs.Ytmbkbpaoiilicaa.LemGAtGroupA

theorem ga_mod (x m : Int) (hm : 0 < m) : 0 ≤ x % m ∧ x % m < m := ⟨Int.emod_nonneg x (by omega), Int.emod_lt_of_pos x hm⟩
theorem span_eq (n : Int) (hn : -9223372036854775808 ≤ n ∧ n < 9223372036854775808) : ∃ t a b, busbarlaw0_Span.f n = some (t, a, b) ∧ 0 ≤ t ∧ t < 4 ∧ 0 ≤ a ∧ a < b ∧ b ≤ 65536 := by
  have m1 := ga_mod n 4 (by omega)
  have m2 := ga_mod (Int.tdiv n 4) 40 (by omega)
  have m3 := ga_mod (Int.tdiv n 160) 12 (by omega)
  unfold busbarlaw0_Span.f
  rw [within_eq n 4 (by omega) (by omega), Option.bind_some, digit_eq n 4 40 hn (by omega) (by omega) (by omega), Option.bind_some, digit_eq n 160 12 hn (by omega) (by omega) (by omega), Option.bind_some, digit_eq n 1920 16 hn (by omega) (by omega) (by omega), Option.bind_some]
  generalize Int.tdiv n 4 % 40 = x at m2 ⊢
  generalize Int.tdiv n 160 % 12 = y at m3 ⊢
  rw [wrap64_id (x := 65496 + x) (by omega) (by omega), wrap64_id (x := 1 + y) (by omega) (by omega)]
  split
  · refine ⟨_, _, _, rfl, m1.1, m1.2, by omega, ?_, ?_⟩
    · rw [wrap64_id (by omega) (by omega)]; unfold mn; split <;> omega
    · unfold mn; split <;> omega
  · split
    · rw [Option.bind_some]
      refine ⟨_, _, _, rfl, m1.1, m1.2, by omega, ?_, ?_⟩
      · rw [wrap64_id (x := 100 * y) (by omega) (by omega), wrap64_id (x := 1 + 100 * y) (by omega) (by omega), wrap64_id (by omega) (by omega)]; unfold mn; split <;> omega
      · unfold mn; split <;> omega
    · refine ⟨_, _, _, rfl, m1.1, m1.2, by omega, ?_, ?_⟩
      · rw [wrap64_id (by omega) (by omega)]; unfold mn; split <;> omega
      · unfold mn; split <;> omega
theorem key_eq (n : Int) (hn : -9223372036854775808 ≤ n ∧ n < 9223372036854775808) : ∃ t a, busbarlaw0_Key.f n = some (t, a) ∧ 0 ≤ t ∧ t < 4 ∧ 0 ≤ a ∧ a < 65536 := by
  have m1 := ga_mod n 4 (by omega)
  have m2 := ga_mod (Int.tdiv n 4) 16 (by omega)
  unfold busbarlaw0_Key.f
  rw [within_eq n 4 (by omega) (by omega), Option.bind_some, digit_eq n 4 16 hn (by omega) (by omega) (by omega), Option.bind_some, digit_eq n 64 16 hn (by omega) (by omega) (by omega), Option.bind_some]
  generalize Int.tdiv n 4 % 16 = x at m2 ⊢
  split
  · rw [wrap64_id (x := 65535 - x) (by omega) (by omega)]
    exact ⟨_, _, rfl, m1.1, m1.2, by omega, by omega⟩
  · exact ⟨_, _, rfl, m1.1, m1.2, by omega, by omega⟩
theorem ga_j0 (n : Int) (hn : -9223372036854775808 ≤ n ∧ n < 9223372036854775808) (l : List Gr) (hg : Gs l) (hl : l.length ≤ 24) (t a : Int) (ht : -9223372036854775808 ≤ t ∧ t < 9223372036854775808) (ha : -9223372036854775808 ≤ a ∧ a < 9223372036854775808) (k : Nat) (hk : 100 ≤ k) : busbarlaw14_GroupAsks.j0 (k + 1) n l t a = some true := by
  obtain ⟨s, x, y, e, s0, s1, x0, xy, y1⟩ := span_eq n hn
  rw [busbarlaw14_GroupAsks.j0, e, Option.bind_some, at_eq l hg t a ht ha, Option.bind_some, refat_eq l hg (by omega) t a (by omega), Option.bind_some, if_pos (by simp), if_pos (by simp), splits_eq l s x y x0 y1 hg (by omega) (by omega), Option.bind_some, refsplits_eq l hg (by omega) s x y xy (by omega), Option.bind_some, beq_self_eq_true]
theorem GroupAsks : busbarlaw14_GroupAsks.Pure := by
  intro ks t a near n _ _ hk ht ha hn
  have hks : ∀ x ∈ ks, -9223372036854775808 ≤ x ∧ x < 9223372036854775808 := fun x hx => wf_i64 (hk x hx)
  have ht := wf_i64 ht
  have ha := wf_i64 ha
  have hn := wf_i64 hn
  obtain ⟨l, he, hg, hl⟩ := all_eq ks hks
  refine ⟨300, ?_⟩
  unfold busbarlaw14_GroupAsks.f
  rw [LemAwakeGroupA.awake_ev (by omega), Option.bind_some, if_pos rfl, he 300 (by omega), Option.bind_some]
  cases near
  · rw [if_neg (by decide)]
    exact ga_j0 n hn l hg hl t a ht ha 299 (by omega)
  · obtain ⟨t', a', e, h1, h2, h3, h4⟩ := key_eq a ha
    rw [if_pos rfl, e, Option.bind_some]
    exact ga_j0 n hn l hg hl t' a' (by omega) (by omega) 299 (by omega)
end Go.Proofs.Ytmbkbpaoiilicaa.Pure
