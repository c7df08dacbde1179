/- Words that are put one behind the other stand at every second place, each as it was: for every list of words. -/
import Derived.Test.YtkfdombneaikfaaLemWord
import Derived.Test.YtkfdombneaikfaaLemBytesWord
namespace Go.Proofs.Ytkfdombneaikfaa.Pure
open Go.RowKit Go.Proofs.Ytkfdombneaikfaa.PWord Go.Proofs.YtkfdombneaikfaaW.PrintWords Go.Proofs.YtkfdombneaikfaaW.PrintLast Go.Proofs.Ytkfdombneaikfaa.Num Go.Proofs.Ytkfdombneaikfaa.LemWord Go.Proofs.Ytkfdombneaikfaa.LemBytesWord

theorem row_l0 (l : List Int) (hl : l.length ≤ 100) (hw : W16 l) : ∀ (d i k : Nat), i + d = l.length → d < k →
    busbarlaw1_WordRow.l0 k l (raw (l.take i)) (i : Int) = busbarlaw1_WordRow.l0 (k - d) l (raw l) (l.length : Int)
  | 0, i, k, h, _ => by
    have : i = l.length := by omega
    subst this
    simp
  | d + 1, i, k, h, hk => by
    obtain ⟨k, rfl⟩ : ∃ m, k = m + 1 := ⟨k - 1, by omega⟩
    have hi : i < l.length := by omega
    have hx := hw l[i] (List.getElem_mem _)
    have hr : rd l (i : Int) = l[i] := by simp [rd, List.getD_eq_getElem?_getD, List.getElem?_eq_getElem hi]
    have hlen : (raw (l.take i)).length = 2 * i := by rw [raw_length, List.length_take]; omega
    have ht : raw (l.take (i + 1)) = raw (l.take i) ++ [l[i] / 256, l[i] % 256] := by
      rw [List.take_succ_eq_append_getElem hi, raw_append]; simp [raw]
    rw [busbarlaw1_WordRow.l0, if_pos (by omega), if_pos (by omega), hr, put_eq _ _ hx.1 hx.2 (by omega)]
    simp only [Option.bind_some]
    rw [wrap64_id (by omega) (by omega), ← ht, show ((i : Int) + 1) = ((i + 1 : Nat) : Int) by omega, row_l0 l hl hw d (i + 1) k (by omega) (by omega), Nat.add_sub_add_right]
theorem row_l1 (l : List Int) (hl : l.length ≤ 100) (hw : W16 l) : ∀ (d i k : Nat), i + d = l.length → d < k →
    busbarlaw1_WordRow.l1 k l (raw l) (i : Int) = some true
  | 0, i, k, h, hk => by
    obtain ⟨k, rfl⟩ : ∃ m, k = m + 1 := ⟨k - 1, by omega⟩
    have hlen := raw_length l
    rw [busbarlaw1_WordRow.l1, if_neg (by omega), wrap64_id (by omega) (by omega), show (2 * (l.length : Int)) = ((2 * l.length : Nat) : Int) by omega, get_none _ _ (by omega) (by omega) (by omega)]
    rfl
  | d + 1, i, k, h, hk => by
    obtain ⟨k, rfl⟩ : ∃ m, k = m + 1 := ⟨k - 1, by omega⟩
    have hi : i < l.length := by omega
    have hx := hw l[i] (List.getElem_mem _)
    have hlen := raw_length l
    have hr : rd l (i : Int) = l[i] := by simp [rd, List.getD_eq_getElem?_getD, List.getElem?_eq_getElem hi]
    have ha := raw_at l i hi
    rw [busbarlaw1_WordRow.l1, if_pos (by omega), wrap64_id (by omega) (by omega), show (2 * (i : Int)) = ((2 * i : Nat) : Int) by omega, get_some _ _ (by omega) (by omega) (raw_byte l hw), ha.1, ha.2]
    simp only [Option.bind_some, if_true]
    rw [if_pos (by omega), hr, if_pos (by omega), wrap64_id (by omega) (by omega), show ((i : Int) + 1) = ((i + 1 : Nat) : Int) by omega]
    exact row_l1 l hl hw d (i + 1) k (by omega) (by omega)
theorem WordRow : busbarlaw1_WordRow.Pure := by
  intro l _ _ hw
  refine ⟨300, ?_⟩
  unfold busbarlaw1_WordRow.f
  by_cases h : (l.length : Int) > 100
  · rw [if_pos h]
    simp [busbarlaw1_WordRow.j0, awake_ev]
  · rw [if_neg h, awake_ev (by omega)]
    have hl : l.length ≤ 100 := by omega
    have hlen := raw_length l
    simp only [Option.bind_some, Bool.not_true, busbarlaw1_WordRow.j0, Bool.false_eq_true, if_false]
    have h0 := row_l0 l hl (w16_of hw) l.length 0 299 (by omega) (by omega)
    simp only [List.take_zero, Int.ofNat_zero] at h0
    rw [show raw [] = [] from rfl] at h0
    obtain ⟨m, hm⟩ : ∃ m, 299 - l.length = m + 1 := ⟨298 - l.length, by omega⟩
    refine (show busbarlaw1_WordRow.l0 299 l [] 0 = _ from h0).trans ?_
    rw [hm, busbarlaw1_WordRow.l0, if_neg (by omega), wrap64_id (by omega) (by omega), if_pos (by omega)]
    exact row_l1 l hl (w16_of hw) l.length 0 m (by omega) (by omega)
end Go.Proofs.Ytkfdombneaikfaa.Pure
