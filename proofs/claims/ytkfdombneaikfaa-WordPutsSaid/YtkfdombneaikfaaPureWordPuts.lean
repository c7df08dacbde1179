/- A word that is put behind any bytes is its higher byte and its lower one; at any place the word is got that stands there, or none: for all bytes, words and places. -/
import Derived.Test.YtkfdombneaikfaaLemBytes2WordL
import Derived.Test.YtkfdombneaikfaaLemLentWordL
import Derived.Test.YtkfdombneaikfaaLemAwakeWordL
import Derived.Test.YtkfdombneaikfaaPWordLx0
import Derived.Test.YtkfdombneaikfaaPWordLx5
namespace Go.Proofs.Ytkfdombneaikfaa.Pure
open Go.RowKit Go.Proofs.Ytkfdombneaikfaa.PWordL Go.Proofs.YtkfdombneaikfaaW.PrintWords Go.Proofs.YtkfdombneaikfaaW.PrintLast Go.Proofs.Ytkfdombneaikfaa.Num Go.Proofs.Ytkfdombneaikfaa.LemBytesWordL Go.Proofs.Ytkfdombneaikfaa.LemBytes2WordL Go.Proofs.Ytkfdombneaikfaa.LemLentWordL

theorem WordPuts : busbarlaw1_WordPuts.Pure := by
  intro l w at_ _ _ hb hw ha
  have hb := b8_of hb
  have hw := wf_u16 hw
  have ha := wf_i64 ha
  refine ⟨1000, ?_⟩
  unfold busbarlaw1_WordPuts.f
  by_cases h : (l.length : Int) > 300
  · rw [if_pos h, busbarlaw1_WordPuts.j0, if_pos rfl, LemAwakeWordL.awake_ev (by omega)]
    rfl
  · rw [if_neg h, LemAwakeWordL.awake_ev (by omega), Option.bind_some, busbarlaw1_WordPuts.j0, if_neg (by decide), lent_eq l (by omega) (by omega), Option.bind_some, get_any l at_ (by omega) ha hb, Option.bind_some,
      refget_any l at_ (by omega) ha hb, Option.bind_some, put_eq l w hw.1 hw.2 (by omega), Option.bind_some, get_any _ _ (by simp; omega) (by omega) (put_b8 l w hb hw.1 hw.2), Option.bind_some, gt_put l w hw.1 hw.2,
      if_pos rfl, if_pos (by simp), refput1_eq l w hw.1 hw.2 (by omega), Option.bind_some, if_pos rfl, if_pos rfl, if_pos rfl, stays_eq l (by omega) (by omega)]
    rfl
end Go.Proofs.Ytkfdombneaikfaa.Pure
