/- Words in the one order are the number that they are, turned round, in the other order: for every list of words, as the row says (no condition besides). -/
import Derived.Test.YtkfdombneaikfaaLemWord
namespace Go.Proofs.Ytkfdombneaikfaa.Pure
open Go.RowKit Go.Proofs.Ytkfdombneaikfaa.PWord Go.Proofs.YtkfdombneaikfaaW.PrintWords Go.Proofs.YtkfdombneaikfaaW.PrintLast Go.Proofs.Ytkfdombneaikfaa.Num Go.Proofs.Ytkfdombneaikfaa.LemWord

theorem turns_loop (l : List Int) (hl : l.length ≤ 40) : ∀ (n : Nat) (acc : List Int) (x4 : Int) (k : Nat), n ≤ l.length → acc.length + n ≤ 40 → x4 = (n : Int) - 1 → n + 9 ≤ k →
    busbarlaw1_WordTurns.l0 k l acc x4 = busbarlaw1_WordTurns.l0 (k - n) l (acc ++ (l.take n).reverse) (-1)
  | 0, acc, x4, k, _, _, hx, hk => by subst hx; simp
  | n + 1, acc, x4, k, hn, ha, hx, hk => by
    obtain ⟨k, rfl⟩ : ∃ m, k = m + 1 := ⟨k - 1, by omega⟩
    have hx' : x4 = (n : Int) := by omega
    subst hx'
    have ht : l.take (n + 1) = l.take n ++ [l[n]] := List.take_succ_eq_append_getElem (by omega)
    have hr : rd l (n : Int) = l[n] := by simp [rd, List.getD_eq_getElem?_getD, List.getElem?_eq_getElem (show n < l.length by omega)]
    rw [busbarlaw1_WordTurns.l0, if_pos (by omega), if_pos (by omega), if_pos (by omega), if_pos (by omega), wrap64_id (by omega) (by omega)]
    rw [turns_loop l hl n (acc ++ [rd l n]) ((n : Int) - 1) k (by omega) (by simp; omega) rfl (by omega), ht, hr, Nat.add_sub_add_right]
    simp only [List.reverse_append, List.reverse_cons, List.reverse_nil, List.nil_append, List.singleton_append, List.append_assoc]

theorem WordTurns : busbarlaw1_WordTurns.Pure := by
  intro l _ _ hw
  refine ⟨60, ?_⟩
  unfold busbarlaw1_WordTurns.f
  by_cases h : (l.length : Int) > 40
  · rw [if_pos h]
    simp [busbarlaw1_WordTurns.j0, awake_ev]
  · rw [if_neg h, awake_ev (by omega)]
    have hl : l.length ≤ 40 := by omega
    simp only [Option.bind_some, Bool.not_true, busbarlaw1_WordTurns.j0, Bool.false_eq_true, if_false]
    rw [wrap64_id (by omega) (by omega), turns_loop l hl l.length [] _ _ (Nat.le_refl _) (by simp; omega) rfl (by omega), List.take_length, List.nil_append]
    obtain ⟨m, hm⟩ : ∃ m, 59 - l.length = m + 1 := ⟨58 - l.length, by omega⟩
    rw [hm, busbarlaw1_WordTurns.l0, if_neg (by omega)]
    have hr : W16 l.reverse := fun x hx => w16_of hw x (by simpa using hx)
    by_cases h4 : 1 ≤ l.length ∧ l.length ≤ 4
    · rw [join_some l (w16_of hw) h4.1 h4.2 false (by omega), join_some l.reverse hr (by simpa using h4.1) (by simpa using h4.2) true (by omega)]
      simp only [Option.bind_some, Bool.false_eq_true, if_false, if_true, List.reverse_reverse, beq_self_eq_true]
      rw [if_pos (by omega)]
      have : (l.length : Int) ≤ 4 := by omega
      simp [this]
    · have h5 : l.length = 0 ∨ 4 < l.length := by omega
      rw [join_out l false h5 (by omega), join_out l.reverse true (by simpa using h5) (by omega)]
      simp only [Option.bind_some, if_true, beq_self_eq_true]
      by_cases h6 : (l.length : Int) ≥ 1
      · rw [if_pos h6]
        have : ¬ (l.length : Int) ≤ 4 := by omega
        simp [this]
      · rw [if_neg h6]
end Go.Proofs.Ytkfdombneaikfaa.Pure
