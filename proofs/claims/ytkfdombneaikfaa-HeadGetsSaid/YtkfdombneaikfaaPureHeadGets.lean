/- Any bytes, as they are, or with noughts for a protocol and a small length, begin with a head, or with none, or are too few, as the document says: for all bytes. -/
import Derived.Test.YtkfdombneaikfaaLemHead2HeadL
import Derived.Test.YtkfdombneaikfaaLemLentHeadL
import Derived.Test.YtkfdombneaikfaaPHeadLx0
import Derived.Test.YtkfdombneaikfaaPHeadLx9
namespace Go.Proofs.Ytkfdombneaikfaa.Pure
open Go.RowKit Go.Proofs.Ytkfdombneaikfaa.PHeadL Go.Proofs.YtkfdombneaikfaaW.PrintWords Go.Proofs.YtkfdombneaikfaaW.PrintLast Go.Proofs.Ytkfdombneaikfaa.Num Go.Proofs.Ytkfdombneaikfaa.LemHeadHeadL Go.Proofs.Ytkfdombneaikfaa.LemHead2HeadL Go.Proofs.Ytkfdombneaikfaa.LemLentHeadL

theorem gets_j2 (l : List Int) (hl : l.length ≤ 60) (hb : B8 l) (k : Nat) (hk : 100 ≤ k) : busbarlaw4_HeadGets.j2 (k + 1) l = some true := by
  rw [busbarlaw4_HeadGets.j2, lent_eq l (by omega) (by omega), Option.bind_some, get_eq l (by omega) hb (by omega), Option.bind_some, refgethead_eq l (by omega) hb (by omega), Option.bind_some, if_pos rfl, if_pos (by simp), stays_eq l (by omega) (by omega)]
  rfl
theorem set_b8 (l : List Int) (i : Nat) (hb : B8 l) : B8 (l.set i 0) := by
  intro x hx
  rcases List.mem_or_eq_of_mem_set hx with h | rfl
  · exact hb x h
  · omega
theorem gets_l0 : ∀ (d i : Nat) (l : List Int) (k : Nat), i + d = 5 → l.length ≤ 60 → B8 l → 100 ≤ k → busbarlaw4_HeadGets.l0 (k + d + 2) l (i : Int) = some true
  | 0, i, l, k, hi, hl, hb, hk => by
    rw [busbarlaw4_HeadGets.l0, if_neg (by omega)]
    exact gets_j2 l hl hb k hk
  | d + 1, i, l, k, hi, hl, hb, hk => by
    have ih := gets_l0 d (i + 1) (l.set i 0) k (by omega) (by rw [List.length_set]; omega) (set_b8 l i hb) hk
    rw [show k + (d + 1) + 2 = (k + d + 2) + 1 by omega, busbarlaw4_HeadGets.l0, if_pos (by omega)]
    by_cases h : (i : Int) < (l.length : Int)
    · rw [if_pos h, if_pos (by omega), Int.toNat_natCast, wrap64_id (by omega) (by omega)]
      exact ih
    · rw [if_neg h]
      exact gets_j2 l hl hb (k + d + 1) (by omega)
theorem HeadGets : busbarlaw4_HeadGets.Pure := by
  intro l mend _ _ hb
  have hb := b8_of hb
  refine ⟨300, ?_⟩
  unfold busbarlaw4_HeadGets.f
  by_cases h : (l.length : Int) > 60
  · rw [if_pos h, busbarlaw4_HeadGets.j0, if_pos rfl, awake_ev (by omega)]
    rfl
  · rw [if_neg h, awake_ev (by omega), Option.bind_some, busbarlaw4_HeadGets.j0, if_neg (by decide), if_pos (by simp; omega), Option.bind_some, List.nil_append]
    cases mend
    · rw [if_neg (by decide)]
      exact gets_j2 l (by omega) hb 298 (by omega)
    · rw [if_pos rfl]
      exact gets_l0 3 2 l 294 rfl (by omega) hb (by omega)
end Go.Proofs.Ytkfdombneaikfaa.Pure
