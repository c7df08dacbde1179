/- Each front of a frame is too little: for all bytes and units. -/
import Derived.Test.YtgbclemmadkcmaaLemAduAdu
import Derived.Test.YtgbclemmadkcmaaLemWithinAdu
import Derived.Test.YtgbclemmadkcmaaPAdux0
import Derived.Test.YtgbclemmadkcmaaPAdux29
namespace Go.Proofs.Ytgbclemmadkcmaa.Pure
open Go.RowKit Go.Proofs.Ytgbclemmadkcmaa.PAdu Go.Proofs.YtgbclemmadkcmaaW.PrintWords Go.Proofs.YtgbclemmadkcmaaW.PrintLast Go.Proofs.Ytgbclemmadkcmaa.Num Go.Proofs.Ytgbclemmadkcmaa.LemHeadAdu Go.Proofs.Ytgbclemmadkcmaa.LemAduAdu Go.Proofs.Ytgbclemmadkcmaa.LemWithinAdu

theorem af_l0 (t u : Int) (p : List Int) (hp : p.length ≤ 253) (h : Ok t ((p.length : Int) + 1) u) (hb8 : B8 p) : ∀ (d i k : Nat), i + d = 7 + p.length → d + 3 ≤ k → busbarlaw8_AduFronts.l0 k (hb t ((p.length : Int) + 1) u ++ p) (i : Int) = some true
  | 0, i, k, hi, hk => by
    obtain ⟨k, rfl⟩ : ∃ m, k = m + 1 := ⟨k - 1, by omega⟩
    rw [busbarlaw8_AduFronts.l0, if_neg (by rw [List.length_append, hb_length]; omega)]
  | d + 1, i, k, hi, hk => by
    obtain ⟨k, rfl⟩ : ∃ m, k = m + 1 := ⟨k - 1, by omega⟩
    have hl : (hb t ((p.length : Int) + 1) u ++ p).length = 7 + p.length := by rw [List.length_append, hb_length]
    have hbf : B8 ((hb t ((p.length : Int) + 1) u ++ p).take i) := fun x hx => frame_b8 t u p h hb8 x (List.mem_of_mem_take hx)
    rw [busbarlaw8_AduFronts.l0, if_pos (by rw [hl]; omega), if_pos (by omega), if_pos (by rw [hl]; omega), Int.toNat_natCast, cut_eq _ (by rw [List.length_take, hl]; omega) hbf (by omega), cut_front t u p h i (by omega), Option.bind_some, if_pos rfl, if_pos rfl, wrap64_id (by omega) (by omega)]
    exact af_l0 t u p hp h hb8 d (i + 1) k (by omega) (by omega)
theorem AduFronts : busbarlaw8_AduFronts.Pure := by
  intro p u _ _ hb _
  have hb8 := b8_of hb
  refine ⟨400, ?_⟩
  unfold busbarlaw8_AduFronts.f
  by_cases h1 : (p.length : Int) < 1
  · rw [if_pos h1, busbarlaw8_AduFronts.j0, if_pos rfl, adu_awake, Option.bind_some]
  · rw [if_neg h1]
    by_cases h2 : (p.length : Int) > 253
    · rw [if_pos h2, busbarlaw8_AduFronts.j0, if_pos rfl, adu_awake, Option.bind_some]
    · have u0 := Int.emod_nonneg u (show (256 : Int) ≠ 0 by omega)
      have u1 := Int.emod_lt_of_pos u (show (0 : Int) < 256 by omega)
      have hok : Ok 0 ((p.length : Int) + 1) (u % 256) := by unfold Ok; omega
      rw [if_neg h2, adu_awake, Option.bind_some, busbarlaw8_AduFronts.j0, if_neg (by decide), within_eq u 256 (by omega) (by omega), Option.bind_some, bytes_ok 0 _ p (by omega) hok, Option.bind_some, if_pos rfl]
      have hl : (LemHeadAdu.hb 0 ((p.length : Int) + 1) (u % 256) ++ p).length = 7 + p.length := by rw [List.length_append, hb_length]
      dsimp only
      rw [hl, wrap64_id (by omega) (by omega), show (((7 + p.length : Nat) : Int) != 7 + (p.length : Int)) = false by simp, busbarlaw8_AduFronts.j1, if_neg (by decide)]
      exact af_l0 0 _ p (by omega) hok hb8 (7 + p.length) 0 398 (by omega) (by omega)
end Go.Proofs.Ytgbclemmadkcmaa.Pure
