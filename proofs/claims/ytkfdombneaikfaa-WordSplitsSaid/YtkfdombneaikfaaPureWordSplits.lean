/- Any number is split into words, or does not fit, as the document says; what was split is joined to it again: for every number, how many, and order. -/
import Derived.Test.YtkfdombneaikfaaLemWord2
namespace Go.Proofs.Ytkfdombneaikfaa.Pure
open Go.RowKit Go.Proofs.Ytkfdombneaikfaa.PWord Go.Proofs.YtkfdombneaikfaaW.PrintWords Go.Proofs.YtkfdombneaikfaaW.PrintLast Go.Proofs.Ytkfdombneaikfaa.Num Go.Proofs.Ytkfdombneaikfaa.LemWord Go.Proofs.Ytkfdombneaikfaa.LemSplit Go.Proofs.Ytkfdombneaikfaa.LemWord2

theorem splitted_length (v : Int) (n : Nat) (little : Bool) : (splitted v n little).1.length ≤ n := by
  unfold splitted
  split
  · simp
  · cases little <;> simp [digs_length]
theorem WordSplits : busbarlaw1_WordSplits.Pure := by
  intro v n little hv hn
  obtain ⟨h0, h1⟩ := wf_u64 hv
  refine ⟨1100, ?_⟩
  unfold busbarlaw1_WordSplits.f
  rw [awake_ev (by omega)]
  simp only [Option.bind_some, if_true]
  by_cases h4 : 1 ≤ n ∧ n ≤ 4
  · obtain ⟨m, rfl⟩ := Int.eq_ofNat_of_zero_le (show 0 ≤ n by omega)
    have hm1 : 1 ≤ m := by omega
    have hm4 : m ≤ 4 := by omega
    have hl := splitted_length v m little
    rw [split_all v h0 h1 m hm1 hm4 little (by omega), refsplit_all v h0 h1 m hm1 hm4 little (by omega)]
    simp only [Option.bind_some, bne_self_eq_false, Bool.false_eq_true, if_false]
    rw [same_eq _ (by omega) (by omega)]
    simp only [Option.bind_some, if_true]
    by_cases hp : pw m ≤ v
    · unfold splitted
      rw [if_pos hp, join_out [] little (.inl rfl) (by omega)]
      rfl
    · have hd := digs_length m v
      have hw : W16 (splitted v m little).1 := by
        unfold splitted
        rw [if_neg hp]
        exact ord_w16 little (digs_w16 m v)
      have hb : (splitted v m little) = (ord little (digs m v), true) := by
        unfold splitted
        rw [if_neg hp]
        rfl
      rw [hb] at hw ⊢
      rw [join_some _ hw (by simp [ord_length, hd]; omega) (by simp [ord_length, hd]; omega) little (by omega)]
      have ho : (if little = true then (ord little (digs m v)).reverse else ord little (digs m v)) = digs m v := by cases little <;> simp [ord]
      simp only [Option.bind_some, if_true, ho, big_digs m v h0 (by omega), beq_self_eq_true]
  · have h5 : n < 1 ∨ 4 < n := by omega
    rw [split_out v n little h5 (by omega), refsplit_out v n little h5 (by omega)]
    simp only [Option.bind_some, bne_self_eq_false, Bool.false_eq_true, if_false]
    rw [same_eq _ (by simp) (by omega)]
    simp only [Option.bind_some, if_true]
    rw [join_out [] little (.inl rfl) (by omega)]
    rfl
end Go.Proofs.Ytkfdombneaikfaa.Pure
