/- Any numbers and bytes are a frame's bytes, or may not be, as the document says; what was told is cut as it was: for all numbers and bytes. -/
import Derived.Test.YtgbclemmadkcmaaLemAduAdu
import Derived.Test.YtgbclemmadkcmaaLemLentAdu
import Derived.Test.YtgbclemmadkcmaaLemWithinAdu
import Derived.Test.YtgbclemmadkcmaaPAdux0
import Derived.Test.YtgbclemmadkcmaaPAdux13
namespace Go.Proofs.Ytgbclemmadkcmaa.Pure
open Go.RowKit Go.Proofs.Ytgbclemmadkcmaa.PAdu Go.Proofs.YtgbclemmadkcmaaW.PrintWords Go.Proofs.YtgbclemmadkcmaaW.PrintLast Go.Proofs.Ytgbclemmadkcmaa.Num Go.Proofs.Ytgbclemmadkcmaa.LemHeadAdu Go.Proofs.Ytgbclemmadkcmaa.LemAduAdu Go.Proofs.Ytgbclemmadkcmaa.LemLentAdu Go.Proofs.Ytgbclemmadkcmaa.LemWithinAdu

theorem at_j1 (t u : Int) (p m : List Int) (hp : p.length ≤ 300) (hm : m.length ≤ 40) (hp8 : B8 p) (hm8 : B8 m) (k : Nat) (hk : 400 ≤ k) : busbarlaw8_AduTells.j1 (k + 1 + 1) t u p m = some true := by
  rw [busbarlaw8_AduTells.j1, lent_eq p (by omega) (by omega), Option.bind_some]
  by_cases h : Ok t ((p.length : Int) + 1) u
  · have hl : (hb t ((p.length : Int) + 1) u ++ p).length = 7 + p.length := by rw [List.length_append, hb_length]
    have h8 : B8 (hb t ((p.length : Int) + 1) u ++ p ++ m) := fun x hx => (List.mem_append.1 hx).elim (frame_b8 t u p h hp8 x) (hm8 x)
    rw [bytes_ok t u p (by omega) h, Option.bind_some, refbytes_ok t u p (by omega) h (by omega), Option.bind_some, if_pos rfl, if_pos rfl, stays_eq p (by omega) (by omega), Option.bind_some, busbarlaw8_AduTells.j2, if_neg (by decide), if_pos rfl, if_pos (by rw [hl, List.length_nil]; omega), Option.bind_some, List.nil_append, if_pos (by rw [hl]; omega)]
    rw [cut_eq _ (by rw [List.length_append, hl]; omega) h8 (by omega), cut_frame t u p m h, Option.bind_some, if_pos rfl, if_pos (by dsimp only; rw [hl]; omega), if_pos rfl, if_pos rfl, beq_self_eq_true]
  · rw [bytes_no t u p (by omega) h, Option.bind_some, refbytes_no t u p (by omega) h (by omega), Option.bind_some, if_pos rfl, if_pos rfl, stays_eq p (by omega) (by omega), Option.bind_some, busbarlaw8_AduTells.j2, if_neg (by decide), if_neg (by decide)]
theorem AduTells : busbarlaw8_AduTells.Pure := by
  intro t u near p m _ _ _ _ hp8 _ _ hm8
  have hp8 := b8_of hp8
  have hm8 := b8_of hm8
  refine ⟨500, ?_⟩
  unfold busbarlaw8_AduTells.f
  by_cases h1 : (p.length : Int) > 300
  · rw [if_pos h1, busbarlaw8_AduTells.j0, if_pos rfl, adu_awake, Option.bind_some]
  · rw [if_neg h1]
    by_cases h2 : (m.length : Int) > 40
    · rw [if_pos h2, busbarlaw8_AduTells.j0, if_pos rfl, adu_awake, Option.bind_some]
    · rw [if_neg h2, adu_awake, Option.bind_some, busbarlaw8_AduTells.j0, if_neg (by decide)]
      cases near
      · rw [if_neg (by decide)]
        exact at_j1 t u p m (by omega) (by omega) hp8 hm8 497 (by omega)
      · rw [if_pos rfl, within_eq t 65536 (by omega) (by omega), Option.bind_some, within_eq u 256 (by omega) (by omega), Option.bind_some]
        exact at_j1 _ _ p m (by omega) (by omega) hp8 hm8 497 (by omega)
end Go.Proofs.Ytgbclemmadkcmaa.Pure
