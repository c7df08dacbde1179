/- Whether any list stands as it may only stand: the program and the document say the same (group SpanL). -/
import Derived.Test.YtkioalfallhegaaPSpanLx0
import Derived.Test.YtkioalfallhegaaPSpanLx7
import Derived.Test.YtkioalfallhegaaPSpanLx8
import Derived.Test.YtkioalfallhegaaPSpanLx9
import Derived.Test.YtkioalfallhegaaLemSpanFnSpanL
set_option linter.unusedVariables false
set_option linter.unusedSimpArgs false
namespace Go.Proofs.Ytkioalfallhegaa.LemCanonSpanL
open Go.RowKit Go.Proofs.Ytkioalfallhegaa.PSpanL Go.Proofs.YtkioalfallhegaaW.PrintWords Go.Proofs.YtkioalfallhegaaW.PrintLast Go.Proofs.YtkioalfallhegaaW.PrintMore Go.Proofs.Ytkioalfallhegaa.Num Go.Proofs.Ytkioalfallhegaa.LemSpanSpanL Go.Proofs.Ytkioalfallhegaa.LemSpanFnSpanL


theorem refright_eq (s : S) : busbarref12_Right.f s.f0 s.f1 s.f2 = some (decide (Rt s)) := by
  unfold busbarref12_Right.f
  by_cases h1 : s.f0 ≥ 0
  · rw [if_pos h1]
    by_cases h2 : s.f0 ≤ 3
    · rw [if_pos h2]
      by_cases h3 : s.f1 ≥ 0
      · rw [if_pos h3]
        by_cases h4 : s.f2 ≤ 65536
        · rw [if_pos h4]
          by_cases h5 : s.f1 < s.f2
          · rw [decide_eq_true h5, decide_eq_true (show Rt s by unfold Rt; omega)]
          · rw [decide_eq_false h5, decide_eq_false (show ¬ Rt s by unfold Rt; omega)]
        · rw [if_neg h4, decide_eq_false (show ¬ Rt s by unfold Rt; omega)]
      · rw [if_neg h3, decide_eq_false (show ¬ Rt s by unfold Rt; omega)]
    · rw [if_neg h2, decide_eq_false (show ¬ Rt s by unfold Rt; omega)]
  · rw [if_neg h1, decide_eq_false (show ¬ Rt s by unfold Rt; omega)]
/-- What is still to be looked at, from i on. -/
def rest (l : List S) : Nat → Nat → Bool
  | 0, _ => true
  | d + 1, i => decide (Rt (rd_T47 l (i : Int))) && (decide (i = 0) || decide (Ah (rd_T47 l ((i : Int) - 1)) (rd_T47 l (i : Int)))) && rest l d (i + 1)
theorem canon_any (l : List S) (hl : l.length ≤ 100000) : ∀ (d i k : Nat), i + d = l.length → d < k → span_Canon.l0 k l l (l.length : Int) (i : Int) = some (rest l d i)
  | 0, i, k, h, hk => by
    obtain ⟨k, rfl⟩ : ∃ m, k = m + 1 := ⟨k - 1, by omega⟩
    rw [span_Canon.l0, if_neg (by omega)]
    rfl
  | d + 1, i, k, h, hk => by
    obtain ⟨k, rfl⟩ : ∃ m, k = m + 1 := ⟨k - 1, by omega⟩
    have ih := canon_any l hl d (i + 1) k (by omega) (by omega)
    have hw : wrap64 ((i : Int) + 1) = ((i + 1 : Nat) : Int) := by rw [wrap64_id (by omega) (by omega)]; rfl
    rw [span_Canon.l0, if_pos (by omega), if_pos (by omega), if_pos (by omega), right_eq, Option.bind_some, hw, ih]
    rw [show rest l (d + 1) i = (decide (Rt (rd_T47 l (i : Int))) && (decide (i = 0) || decide (Ah (rd_T47 l ((i : Int) - 1)) (rd_T47 l (i : Int)))) && rest l d (i + 1)) from rfl]
    by_cases hr : Rt (rd_T47 l (i : Int))
    · rw [decide_eq_true hr, if_pos rfl]
      by_cases h0 : i = 0
      · rw [if_neg (by omega), decide_eq_true h0]
        simp
      · rw [if_pos (by omega), wrap64_id (by omega) (by omega), if_pos (by omega), if_pos (by omega), ahead_eq, Option.bind_some, decide_eq_false h0]
        by_cases ha : Ah (rd_T47 l ((i : Int) - 1)) (rd_T47 l (i : Int))
        · rw [decide_eq_true ha, if_pos rfl]; simp
        · rw [decide_eq_false ha, if_neg (by decide)]; simp
    · rw [decide_eq_false hr, if_neg (by decide)]
      simp
theorem refcanon_any (l : List S) (hl : l.length ≤ 100000) : ∀ (d i k : Nat), i + d = l.length → d < k → busbarref12_Canon.l0 k l (i : Int) = some (rest l d i)
  | 0, i, k, h, hk => by
    obtain ⟨k, rfl⟩ : ∃ m, k = m + 1 := ⟨k - 1, by omega⟩
    rw [busbarref12_Canon.l0, if_neg (by omega)]
    rfl
  | d + 1, i, k, h, hk => by
    obtain ⟨k, rfl⟩ : ∃ m, k = m + 1 := ⟨k - 1, by omega⟩
    have ih := refcanon_any l hl d (i + 1) k (by omega) (by omega)
    have hw : wrap64 ((i : Int) + 1) = ((i + 1 : Nat) : Int) := by rw [wrap64_id (by omega) (by omega)]; rfl
    rw [busbarref12_Canon.l0, if_pos (by omega), if_pos (by omega), refright_eq, Option.bind_some, hw, ih]
    rw [show rest l (d + 1) i = (decide (Rt (rd_T47 l (i : Int))) && (decide (i = 0) || decide (Ah (rd_T47 l ((i : Int) - 1)) (rd_T47 l (i : Int)))) && rest l d (i + 1)) from rfl]
    by_cases hr : Rt (rd_T47 l (i : Int))
    · rw [decide_eq_true hr, if_pos rfl]
      by_cases h0 : i = 0
      · rw [if_neg (by omega), decide_eq_true h0]
        simp
      · rw [if_pos (by omega), wrap64_id (x := (i : Int) - 1) (by omega) (by omega), if_pos (by omega), if_pos (by omega), decide_eq_false h0]
        by_cases ha : Ah (rd_T47 l ((i : Int) - 1)) (rd_T47 l (i : Int))
        · rw [decide_eq_true ha]
          unfold Ah at ha
          rw [if_neg (by omega)]
          by_cases he : (rd_T47 l ((i : Int) - 1)).f0 = (rd_T47 l (i : Int)).f0
          · rw [if_pos he, if_neg (by omega)]; simp
          · rw [if_neg he]; simp
        · rw [decide_eq_false ha]
          unfold Ah at ha
          by_cases hg : (rd_T47 l ((i : Int) - 1)).f0 > (rd_T47 l (i : Int)).f0
          · rw [if_pos hg]; simp
          · rw [if_neg hg, if_pos (by omega), if_pos (by omega)]; simp
    · rw [decide_eq_false hr, if_neg (by decide)]
      simp
theorem canon_f (l : List S) (hl : l.length ≤ 100000) {k : Nat} (hk : l.length < k) : span_Canon.f k l = some (rest l l.length 0) := canon_any l hl l.length 0 k (by omega) hk
theorem refcanon_f (l : List S) (hl : l.length ≤ 100000) {k : Nat} (hk : l.length < k) : busbarref12_Canon.f k l = some (rest l l.length 0) := refcanon_any l hl l.length 0 k (by omega) hk
end Go.Proofs.Ytkioalfallhegaa.LemCanonSpanL
