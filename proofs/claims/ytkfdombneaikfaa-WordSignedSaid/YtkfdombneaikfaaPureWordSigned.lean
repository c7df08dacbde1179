/- A word as a signed number, and a number as a word, are what the document says; one leads back to the other: for every word and number. -/
import Derived.Test.YtkfdombneaikfaaLemWord
namespace Go.Proofs.Ytkfdombneaikfaa.Pure
open Go.RowKit Go.Proofs.Ytkfdombneaikfaa.PWord Go.Proofs.YtkfdombneaikfaaW.PrintWords Go.Proofs.YtkfdombneaikfaaW.PrintLast Go.Proofs.Ytkfdombneaikfaa.Num Go.Proofs.Ytkfdombneaikfaa.LemWord

theorem signed_eq (w : Int) (h0 : 0 ≤ w) (h1 : w < 65536) : word_Signed.f w = some (if w ≥ 32768 then w - 65536 else w) := by
  unfold word_Signed.f
  rw [i16_eq, wrap64_id (by omega) (by omega)]
  congr 1
  split <;> omega
theorem refsigned_eq (w : Int) (h0 : 0 ≤ w) (h1 : w < 65536) : busbarref1_Signed.f w = some (if w ≥ 32768 then w - 65536 else w) := by
  unfold busbarref1_Signed.f
  rw [wrap64_id (x := w) (by omega) (by omega), wrap64_id (x := w - 65536) (by omega) (by omega)]
  split <;> rfl
def ofNum (n : Int) : Int × Bool := if n < -32768 ∨ 65536 ≤ n then (0, false) else (n % 65536, true)
theorem of_eq (n : Int) : word_Of.f n = some (ofNum n) := by
  unfold word_Of.f ofNum
  by_cases h1 : n < -32768
  · simp [h1]
  · by_cases h2 : n ≥ 65536
    · simp [h1, h2]
    · rw [if_neg h1, if_neg h2, if_neg (by omega), u16_eq]
theorem refof_eq (n : Int) (k : Nat) (hk : 2 ≤ k) : busbarref1_Of.f k n = some (ofNum n) := by
  obtain ⟨k, rfl⟩ : ∃ m, k = m + 1 := ⟨k - 1, by omega⟩
  unfold busbarref1_Of.f ofNum
  by_cases h1 : n ≥ 0
  · rw [if_pos h1]
    by_cases h2 : n ≤ 65535
    · simp only [busbarref1_Of.j0, decide_eq_true h2, if_true]
      rw [if_neg (by omega), u16_eq]
    · simp only [busbarref1_Of.j0, decide_eq_false h2, Bool.false_eq_true, if_false]
      rw [if_neg (by omega), if_pos (by omega)]
  · rw [if_neg h1]
    simp only [busbarref1_Of.j0, Bool.false_eq_true, if_false]
    rw [if_pos (by omega)]
    by_cases h2 : n ≥ -32768
    · rw [if_pos h2, if_neg (by omega), wrap64_id (by omega) (by omega), u16_eq]
      congr 2
      omega
    · rw [if_neg h2, if_pos (by omega)]
theorem of_signed (w : Int) (h0 : 0 ≤ w) (h1 : w < 65536) : ofNum (if w ≥ 32768 then w - 65536 else w) = (w, true) := by
  unfold ofNum
  by_cases h : w ≥ 32768
  · rw [if_pos h, if_neg (by omega)]
    congr 1
    omega
  · rw [if_neg h, if_neg (by omega)]
    congr 1
    omega
theorem WordSigned : busbarlaw1_WordSigned.Pure := by
  intro w n hw hn
  obtain ⟨h0, h1⟩ := wf_u16 hw
  refine ⟨20, ?_⟩
  unfold busbarlaw1_WordSigned.f
  rw [awake_ev (by omega)]
  simp only [Option.bind_some, if_true]
  rw [of_eq, refof_eq _ _ (by omega), signed_eq w h0 h1, refsigned_eq w h0 h1]
  simp only [Option.bind_some, of_eq, beq_self_eq_true, if_true, of_signed w h0 h1]
end Go.Proofs.Ytkfdombneaikfaa.Pure
