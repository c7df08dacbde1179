/- Any words are joined, or are too few or too many, as the document says; what was joined is split into them again: for every list of words and either order. -/
import Derived.Test.YtkfdombneaikfaaLemWord2
namespace Go.Proofs.Ytkfdombneaikfaa.Pure
open Go.RowKit Go.Proofs.Ytkfdombneaikfaa.PWord Go.Proofs.YtkfdombneaikfaaW.PrintWords Go.Proofs.YtkfdombneaikfaaW.PrintLast Go.Proofs.Ytkfdombneaikfaa.Num Go.Proofs.Ytkfdombneaikfaa.LemWord Go.Proofs.Ytkfdombneaikfaa.LemSplit Go.Proofs.Ytkfdombneaikfaa.LemWord2

theorem WordJoins : busbarlaw1_WordJoins.Pure := by
  intro l little _ _ hw
  refine ⟨1100, ?_⟩
  unfold busbarlaw1_WordJoins.f
  by_cases h : (l.length : Int) > 40
  · rw [if_pos h]
    simp [busbarlaw1_WordJoins.j0, awake_ev]
  · rw [if_neg h, awake_ev (by omega)]
    simp only [Option.bind_some, Bool.not_true, busbarlaw1_WordJoins.j0, Bool.false_eq_true, if_false]
    by_cases h4 : 1 ≤ l.length ∧ l.length ≤ 4
    · have hb := big_bound (ord little l) (ord_w16 little (w16_of hw))
      have p4 := pw4 l.length h4.2
      rw [ord_length] at hb
      rw [join_some l (w16_of hw) h4.1 h4.2 little (by omega), refjoin_some l (w16_of hw) h4.1 h4.2 little (by omega)]
      rw [show big (if little = true then l.reverse else l) = big (ord little l) from rfl]
      simp only [Option.bind_some, if_true, busbarlaw1_WordJoins.j1, bne_self_eq_false, Bool.false_eq_true, if_false]
      have hs := split_all (big (ord little l)) hb.1 (by omega) l.length h4.1 h4.2 little (k := 1098) (by omega)
      rw [hs]
      have hd := digs_big (ord little l) (ord_w16 little (w16_of hw))
      rw [ord_length] at hd
      unfold splitted
      rw [if_neg (by omega), hd]
      have ho : (if little = true then (ord little l).reverse else ord little l) = l := by cases little <;> simp [ord]
      simp only [Option.bind_some, if_true, ho]
      rw [same_eq l (by omega) (by omega)]
      rfl
    · have h5 : l.length = 0 ∨ 4 < l.length := by omega
      rw [join_out l little h5 (by omega), refjoin_out l little h5 (by omega)]
      simp only [Option.bind_some, if_true, busbarlaw1_WordJoins.j1, bne_self_eq_false, Bool.false_eq_true, if_false]
      rw [split_out _ _ _ (by omega) (by omega)]
      rfl
end Go.Proofs.Ytkfdombneaikfaa.Pure
