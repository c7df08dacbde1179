/- Any three numbers are a head's bytes, or may not be, as the document says; what was put is got, with whatever behind it: for all numbers and bytes. -/
import Derived.Test.YtkfdombneaikfaaLemHeadHead
namespace Go.Proofs.Ytkfdombneaikfaa.Pure
open Go.RowKit Go.Proofs.Ytkfdombneaikfaa.PHead Go.Proofs.YtkfdombneaikfaaW.PrintWords Go.Proofs.YtkfdombneaikfaaW.PrintLast Go.Proofs.Ytkfdombneaikfaa.Num Go.Proofs.Ytkfdombneaikfaa.LemHeadHead

theorem HeadPuts : busbarlaw4_HeadPuts.Pure := by
  intro t l u more _ _ _ _ _ hm
  refine ⟨20, ?_⟩
  unfold busbarlaw4_HeadPuts.f
  by_cases h : (more.length : Int) > 40
  · rw [if_pos h]
    simp [busbarlaw4_HeadPuts.j0, awake_ev]
  · rw [if_neg h, awake_ev (by omega)]
    rw [Option.bind_some, Bool.not_true, busbarlaw4_HeadPuts.j0, if_neg (by decide)]
    by_cases ho : Ok t l u
    · rw [put_ok t l u ho, refput_ok t l u ho (by omega)]
      rw [Option.bind_some, Option.bind_some, if_pos rfl, bne_self_eq_false, busbarlaw4_HeadPuts.j1, if_neg (by decide), if_pos rfl, List.nil_append, List.length_nil]
      have hlen : (hb t l u).length = 7 := rfl
      dsimp only
      rw [if_pos (by omega), Option.bind_some, if_pos (by omega), get_eq _ (by simp; omega) (by
        intro x hx
        rcases List.mem_append.1 hx with hx | hx
        · exact hb_b8 t l u ho x hx
        · exact b8_of hm x hx) (by omega), hlook_hb t l u ho]
      simp
    · rw [put_no t l u ho, refput_no t l u ho (by omega)]
      simp [busbarlaw4_HeadPuts.j1]
end Go.Proofs.Ytkfdombneaikfaa.Pure
