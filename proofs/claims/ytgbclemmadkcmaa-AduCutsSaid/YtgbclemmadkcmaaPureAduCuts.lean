/- Any bytes, as they are, or mended, begin with a frame, or with none, or are too few, as the document says: for all bytes. -/
import Derived.Test.YtgbclemmadkcmaaLemAduAdu
import Derived.Test.YtgbclemmadkcmaaLemLentAdu
import Derived.Test.YtgbclemmadkcmaaLemWithinAdu
import Derived.Test.YtgbclemmadkcmaaPAdux0
import Derived.Test.YtgbclemmadkcmaaPAdux17
import Derived.Test.YtgbclemmadkcmaaPAdux18
namespace Go.Proofs.Ytgbclemmadkcmaa.Pure
open Go.RowKit Go.Proofs.Ytgbclemmadkcmaa.PAdu Go.Proofs.YtgbclemmadkcmaaW.PrintWords Go.Proofs.YtgbclemmadkcmaaW.PrintLast Go.Proofs.Ytgbclemmadkcmaa.Num Go.Proofs.Ytgbclemmadkcmaa.LemHeadAdu Go.Proofs.Ytgbclemmadkcmaa.LemAduAdu Go.Proofs.Ytgbclemmadkcmaa.LemLentAdu Go.Proofs.Ytgbclemmadkcmaa.LemWithinAdu

theorem ac_l0 (x : List Int) (hx : x.length ≤ 400) (t u : Int) : ∀ (d i : Nat) (l : List Int) (k : Nat), i + d = l.length → l.length ≤ 1000 → 500 ≤ k → busbarlaw8_AduCuts.l0 (k + d + 1) x x (i : Int) t u l = some true
  | 0, i, l, k, hi, hl, hk => by
    rw [show k + 0 + 1 = k + 1 from rfl, busbarlaw8_AduCuts.l0, if_neg (by omega), stays_eq x (by omega) (by omega), Option.bind_some]
  | d + 1, i, l, k, hi, hl, hk => by
    rw [show k + (d + 1) + 1 = (k + d + 1) + 1 by omega, busbarlaw8_AduCuts.l0, if_pos (by omega), if_pos (by omega), wrap64_id (by omega) (by omega)]
    exact ac_l0 x hx t u d (i + 1) _ k (by rw [List.length_set]; omega) (by rw [List.length_set]; omega) hk
theorem cutl_len (l : List Int) : (cutl l).2.2.1.length ≤ l.length := by
  unfold cutl
  split
  · split
    · simp
    · simp only [List.length_drop, List.length_take]; omega
  · simp
theorem ac_j2 (x : List Int) (hx : x.length ≤ 400) (h8 : B8 x) (k : Nat) (hk : 1000 ≤ k) : busbarlaw8_AduCuts.j2 (k + 1 + 1) x = some true := by
  have hs : busbarlaw8_same.f (cutl x).1 (cutl x).2.1 (cutl x).2.2.1 (cutl x).1 (cutl x).2.1 (cutl x).2.2.1 = some true := by
    unfold busbarlaw8_same.f
    rw [if_pos rfl, if_pos rfl, beq_self_eq_true]
  have hc := cutl_len x
  obtain ⟨m, hm⟩ : ∃ m, k = m + (cutl x).2.2.1.length + 1 := ⟨k - (cutl x).2.2.1.length - 1, by omega⟩
  rw [busbarlaw8_AduCuts.j2, lent_eq x (by omega) (by omega), Option.bind_some, cut_eq x (by omega) h8 (by omega), Option.bind_some, refcut_eq x (by omega) h8 (by omega), Option.bind_some, if_pos rfl, if_pos rfl, hs, Option.bind_some, busbarlaw8_AduCuts.j3, if_neg (by decide), hm]
  exact ac_l0 x hx _ _ (cutl x).2.2.1.length 0 (cutl x).2.2.1 m (by omega) (by omega) (by omega)
theorem set_b8 (l : List Int) (i : Nat) (z : Int) (h0 : 0 ≤ z) (h1 : z < 256) (hb : B8 l) : B8 (l.set i z) := by
  intro x hx
  rcases List.mem_or_eq_of_mem_set hx with h | rfl
  · exact hb x h
  · omega
theorem ac_j1 (n : Int) (x : List Int) (hx : x.length ≤ 400) (h8 : B8 x) (b : Bool) (hb : b = true → 6 ≤ x.length) (k : Nat) (hk : 1000 ≤ k) : busbarlaw8_AduCuts.j1 (k + 1 + 1 + 1) n x b = some true := by
  rw [busbarlaw8_AduCuts.j1]
  cases b
  · rw [if_neg (by decide)]
    exact ac_j2 x hx h8 k hk
  · have h6 := hb rfl
    have n0 := Int.emod_nonneg n (show (256 : Int) ≠ 0 by omega)
    have n1 := Int.emod_lt_of_pos n (show (0 : Int) < 256 by omega)
    rw [if_pos rfl, within_eq n 256 (by omega) (by omega), Option.bind_some, if_pos (by omega), if_pos (by omega), if_pos (by omega), if_pos (by omega)]
    refine ac_j2 _ (by simp only [List.length_set]; exact hx) ?_ k hk
    exact set_b8 _ _ _ (by omega) (by omega) (set_b8 _ _ _ (by omega) (by omega) (set_b8 _ _ _ (by omega) (by omega) (set_b8 _ _ _ (by omega) (by omega) h8)))
theorem AduCuts : busbarlaw8_AduCuts.Pure := by
  intro l mend n _ _ hb _
  have hb8 := b8_of hb
  refine ⟨1500, ?_⟩
  unfold busbarlaw8_AduCuts.f
  by_cases h1 : (l.length : Int) > 400
  · rw [if_pos h1, busbarlaw8_AduCuts.j0, if_pos rfl, adu_awake, Option.bind_some]
  · rw [if_neg h1, adu_awake, Option.bind_some, busbarlaw8_AduCuts.j0, if_neg (by decide), if_pos (by simp; omega), Option.bind_some, List.nil_append]
    cases mend
    · rw [if_neg (by decide)]
      exact ac_j1 n l (by omega) hb8 false (by simp) 1496 (by omega)
    · rw [if_pos rfl]
      exact ac_j1 n l (by omega) hb8 _ (by intro h; have := of_decide_eq_true h; omega) 1496 (by omega)
end Go.Proofs.Ytgbclemmadkcmaa.Pure
