/- Any span is right or not, any list canonical or not, as the document says; so is one that is, with one thing turned: for all spans, lists and numbers. -/
import Derived.Test.YtkioalfallhegaaSaySpanTells
import Derived.Test.YtkioalfallhegaaLemCanonSpanL
import Derived.Test.YtkioalfallhegaaLemSpanFoSpanL
import Derived.Test.YtkioalfallhegaaLemSpanFpSpanL
import Derived.Test.YtkioalfallhegaaLemLentSSpanL
import Derived.Test.YtkioalfallhegaaLemAwakeSpanL
import Derived.Test.YtkioalfallhegaaPSpanLx0
import Derived.Test.YtkioalfallhegaaPSpanLx14
import Derived.Test.YtkioalfallhegaaPSpanLx8
import Derived.Test.YtkioalfallhegaaPSpanLx9
namespace Go.Proofs.Ytkioalfallhegaa.Pure
open Go.RowKit Go.Proofs.Ytkioalfallhegaa.PSpanL Go.Proofs.YtkioalfallhegaaW.PrintWords Go.Proofs.YtkioalfallhegaaW.PrintLast Go.Proofs.Ytkioalfallhegaa.Num Go.Proofs.Ytkioalfallhegaa.LemSpanSpanL Go.Proofs.Ytkioalfallhegaa.LemSpanFnSpanL Go.Proofs.Ytkioalfallhegaa.LemSpanFmSpanL Go.Proofs.Ytkioalfallhegaa.LemSpanFoSpanL Go.Proofs.Ytkioalfallhegaa.LemSpanFpSpanL Go.Proofs.Ytkioalfallhegaa.LemCanonSpanL Go.Proofs.Ytkioalfallhegaa.LemLentSSpanL Go.Proofs.Ytkioalfallhegaa.LemWithinSpanL

theorem tells_both (l : List S) (hl : l.length ≤ 100) (k : Nat) (hk : 150 ≤ k) : ((some l).bind fun y => ((span_Canon.f k y).bind fun t => ((busbarref12_Canon.f k y).bind fun u => (some (t == u))))) = some true := by
  rw [Option.bind_some, canon_f l (by omega) (by omega), Option.bind_some, refcanon_f l (by omega) (by omega), Option.bind_some, beq_self_eq_true]
theorem tells_j1 (ks : List Int) (hks : ∀ x ∈ ks, -9223372036854775808 ≤ x ∧ x < 9223372036854775808) (hm : ks.length ≤ 9223372036854775807) (w n : Int) (hw : -9223372036854775808 ≤ w ∧ w < 9223372036854775808) (k : Nat) (hk : 200 ≤ k) :
    busbarlaw12_SpanTells.j1 (k + 1) ks w n false = some true := by
  have hc := spans_can ks
  have hl := spans_len ks
  rw [busbarlaw12_SpanTells.j1, if_neg (by decide), spans_eq ks hks hm (by omega), Option.bind_some, canon_true _ hc (by omega) (by omega), Option.bind_some, if_pos rfl]
  generalize spansOf ks = l at hc hl ⊢
  by_cases h0 : l.length = 0
  · rw [if_pos (by omega)]
  · rw [if_neg (by omega), digit_eq w 4 _ hw (by omega) (by omega) (by omega), Option.bind_some, within_eq w 4 (by omega) (by omega), Option.bind_some]
    have d1 := Int.emod_nonneg (Int.tdiv w 4) (show (l.length : Int) ≠ 0 by omega)
    have d2 := Int.emod_lt_of_pos (Int.tdiv w 4) (show (0 : Int) < l.length by omega)
    generalize Int.tdiv w 4 % (l.length : Int) = d at d1 d2 ⊢
    rw [if_pos d1, if_pos d2]
    have hs : ∀ s : S, (l.set d.toNat s).length ≤ 100 := fun s => by rw [List.length_set]; omega
    split
    · exact tells_both _ (hs _) k (by omega)
    · split
      · exact tells_both _ (hs _) k (by omega)
      · split
        · exact tells_both _ (hs _) k (by omega)
        · split
          · rw [if_pos (by omega)]
            exact tells_both _ (by simp; omega) k (by omega)
          · exfalso; omega
theorem SpanTells : busbarlaw12_SpanTells.Pure := by
  intro s l ks w n _ _ hk hw _
  have hks : ∀ x ∈ ks, -9223372036854775808 ≤ x ∧ x < 9223372036854775808 := fun x hx => wf_i64 (hk.2 x hx)
  have hm : ks.length ≤ 9223372036854775807 := by have := hk.1; unfold maxLen at this; omega
  have hw := wf_i64 hw
  refine ⟨1000, ?_⟩
  unfold busbarlaw12_SpanTells.f
  by_cases h : (l.length : Int) > 40
  · rw [if_pos h, busbarlaw12_SpanTells.j0, if_pos rfl, LemAwakeSpanL.awake_ev (by omega)]
    rfl
  · rw [if_neg h, LemAwakeSpanL.awake_ev (by omega), Option.bind_some, busbarlaw12_SpanTells.j0, if_neg (by decide), lent_eq l (by omega) (by omega), Option.bind_some, right_eq, Option.bind_some, refright_eq, Option.bind_some, if_neg (by simp),
      canon_f l (by omega) (by omega), Option.bind_some, refcanon_f l (by omega) (by omega), Option.bind_some, if_neg (by simp), stays_eq l (by omega) (by omega), Option.bind_some]
    exact tells_j1 ks hks hm w n hw 998 (by omega)
end Go.Proofs.Ytkioalfallhegaa.Pure
