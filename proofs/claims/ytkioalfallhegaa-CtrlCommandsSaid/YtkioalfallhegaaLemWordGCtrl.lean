/- What the word functions answer, as plain numbers. -/
import Derived.Test.YtkioalfallhegaaPCtrlx0
import Derived.Test.YtkioalfallhegaaPCtrlx1
import Derived.Test.YtkioalfallhegaaPCtrlx20
import Derived.Test.YtkioalfallhegaaNum
set_option linter.unusedVariables false
set_option linter.unusedSimpArgs false
namespace Go.Proofs.Ytkioalfallhegaa.LemWordGCtrl
open Go.RowKit Go.Proofs.Ytkioalfallhegaa.PCtrl Go.Proofs.YtkioalfallhegaaW.PrintWords Go.Proofs.YtkioalfallhegaaW.PrintLast Go.Proofs.YtkioalfallhegaaW.PrintMore Go.Proofs.Ytkioalfallhegaa.Num

/-- The number of words, the highest first. -/
def big (l : List Int) : Int := l.foldl (fun v w => v * 65536 + w) 0

theorem shift_le (i n : Int) (h0 : 0 ≤ i) (h1 : i < 4) (hn : n ≤ 4) (h : i < n) (little : Bool) : word_shift.f i n little = some (if little then 16 * i else 16 * (n - 1 - i)) := by
  unfold word_shift.f
  cases little
  · simp only [Bool.false_eq_true, if_false]
    rw [wrap64_id (x := n - 1) (by omega) (by omega), wrap64_id (x := n - 1 - i) (by omega) (by omega), wrap64_id (by omega) (by omega), u64_id (by omega) (by omega)]
  · simp only [if_true]
    rw [wrap64_id (by omega) (by omega), u64_id (by omega) (by omega)]

theorem join_none (l : List Int) (little : Bool) (k : Nat) (hk : 2 ≤ k) (h : l.length = 0 ∨ 4 < l.length) : word_Join.f k l little = some (0, false) := by
  obtain ⟨k, rfl⟩ : ∃ m, k = m + 1 := ⟨k - 1, by omega⟩
  unfold word_Join.f
  rcases h with h | h
  · rw [if_pos (by omega)]; simp [word_Join.j0]
  · rw [if_neg (by omega)]
    have : decide ((l.length : Int) > 4) = true := by simp; omega
    rw [this]; simp [word_Join.j0]

theorem join1 (a : Int) (little : Bool) (ha : 0 ≤ a ∧ a < 65536) : word_Join.f 8 [a] little = some (a, true) := by
  cases little <;>
  · simp [word_Join.f, word_Join.j0, word_Join.l0, word_shift.f, rd, wrap64, u64_eq]
    simp [shl, u64_eq, IntKind.bits]
    rw [u64_or_zero _ (by omega) (by omega)]; omega

theorem uw0 : IntKind.u64.wrap 0 = 0 := u64_id (by omega) (by omega)
theorem uw16 : IntKind.u64.wrap 16 = 16 := u64_id (by omega) (by omega)
theorem uw32 : IntKind.u64.wrap 32 = 32 := u64_id (by omega) (by omega)
theorem uw48 : IntKind.u64.wrap 48 = 48 := u64_id (by omega) (by omega)
theorem or0 (w : Int) (h : 0 ≤ w) (h' : w < 18446744073709551616) : bits .or .u64 0 w = w := u64_or_zero w h h'
theorem join2 (a b : Int) (ha : 0 ≤ a ∧ a < 65536) (hb : 0 ≤ b ∧ b < 65536) : word_Join.f 8 [a, b] false = some (a * 65536 + b, true) ∧ word_Join.f 8 [a, b] true = some (b * 65536 + a, true) := by
  constructor
  · simp only [word_Join.f, word_Join.j0, word_Join.l0, word_shift.f, rd]
    simp [wrap64, uw0, uw16, uw32, uw48, u64_id ha.1 (by omega : a < 18446744073709551616), u64_id hb.1 (by omega : b < 18446744073709551616)]
    rw [show shl .u64 a 16 = a * 65536 from shl16 a ha.1 ha.2]
    rw [show shl .u64 b 0 = b from shl0 b hb.1 hb.2]
    rw [or0 (a * 65536) (by omega) (by omega)]
    rw [u64_or_hi 16 (a * 65536) (b) (by omega) (by omega) (by omega) (by omega) (by omega) (by omega)]
    try omega
  · simp only [word_Join.f, word_Join.j0, word_Join.l0, word_shift.f, rd]
    simp [wrap64, uw0, uw16, uw32, uw48, u64_id ha.1 (by omega : a < 18446744073709551616), u64_id hb.1 (by omega : b < 18446744073709551616)]
    rw [show shl .u64 a 0 = a from shl0 a ha.1 ha.2]
    rw [show shl .u64 b 16 = b * 65536 from shl16 b hb.1 hb.2]
    rw [or0 (a) (by omega) (by omega)]
    rw [u64_or_lo 16 (a) (b * 65536) (by omega) (by omega) (by omega) (by omega) (by omega) (by omega)]
    try omega
theorem join3 (a b c : Int) (ha : 0 ≤ a ∧ a < 65536) (hb : 0 ≤ b ∧ b < 65536) (hc : 0 ≤ c ∧ c < 65536) : word_Join.f 8 [a, b, c] false = some ((a * 65536 + b) * 65536 + c, true) ∧ word_Join.f 8 [a, b, c] true = some ((c * 65536 + b) * 65536 + a, true) := by
  constructor
  · simp only [word_Join.f, word_Join.j0, word_Join.l0, word_shift.f, rd]
    simp [wrap64, uw0, uw16, uw32, uw48, u64_id ha.1 (by omega : a < 18446744073709551616), u64_id hb.1 (by omega : b < 18446744073709551616), u64_id hc.1 (by omega : c < 18446744073709551616)]
    rw [show shl .u64 a 32 = a * 4294967296 from shl32 a ha.1 ha.2]
    rw [show shl .u64 b 16 = b * 65536 from shl16 b hb.1 hb.2]
    rw [show shl .u64 c 0 = c from shl0 c hc.1 hc.2]
    rw [or0 (a * 4294967296) (by omega) (by omega)]
    rw [u64_or_hi 32 (a * 4294967296) (b * 65536) (by omega) (by omega) (by omega) (by omega) (by omega) (by omega)]
    rw [u64_or_hi 16 (a * 4294967296 + b * 65536) (c) (by omega) (by omega) (by omega) (by omega) (by omega) (by omega)]
    try omega
  · simp only [word_Join.f, word_Join.j0, word_Join.l0, word_shift.f, rd]
    simp [wrap64, uw0, uw16, uw32, uw48, u64_id ha.1 (by omega : a < 18446744073709551616), u64_id hb.1 (by omega : b < 18446744073709551616), u64_id hc.1 (by omega : c < 18446744073709551616)]
    rw [show shl .u64 a 0 = a from shl0 a ha.1 ha.2]
    rw [show shl .u64 b 16 = b * 65536 from shl16 b hb.1 hb.2]
    rw [show shl .u64 c 32 = c * 4294967296 from shl32 c hc.1 hc.2]
    rw [or0 (a) (by omega) (by omega)]
    rw [u64_or_lo 16 (a) (b * 65536) (by omega) (by omega) (by omega) (by omega) (by omega) (by omega)]
    rw [u64_or_lo 32 (a + b * 65536) (c * 4294967296) (by omega) (by omega) (by omega) (by omega) (by omega) (by omega)]
    try omega
theorem join4 (a b c d : Int) (ha : 0 ≤ a ∧ a < 65536) (hb : 0 ≤ b ∧ b < 65536) (hc : 0 ≤ c ∧ c < 65536) (hd : 0 ≤ d ∧ d < 65536) : word_Join.f 8 [a, b, c, d] false = some (((a * 65536 + b) * 65536 + c) * 65536 + d, true) ∧ word_Join.f 8 [a, b, c, d] true = some (((d * 65536 + c) * 65536 + b) * 65536 + a, true) := by
  constructor
  · simp only [word_Join.f, word_Join.j0, word_Join.l0, word_shift.f, rd]
    simp [wrap64, uw0, uw16, uw32, uw48, u64_id ha.1 (by omega : a < 18446744073709551616), u64_id hb.1 (by omega : b < 18446744073709551616), u64_id hc.1 (by omega : c < 18446744073709551616), u64_id hd.1 (by omega : d < 18446744073709551616)]
    rw [show shl .u64 a 48 = a * 281474976710656 from shl48 a ha.1 ha.2]
    rw [show shl .u64 b 32 = b * 4294967296 from shl32 b hb.1 hb.2]
    rw [show shl .u64 c 16 = c * 65536 from shl16 c hc.1 hc.2]
    rw [show shl .u64 d 0 = d from shl0 d hd.1 hd.2]
    rw [or0 (a * 281474976710656) (by omega) (by omega)]
    rw [u64_or_hi 48 (a * 281474976710656) (b * 4294967296) (by omega) (by omega) (by omega) (by omega) (by omega) (by omega)]
    rw [u64_or_hi 32 (a * 281474976710656 + b * 4294967296) (c * 65536) (by omega) (by omega) (by omega) (by omega) (by omega) (by omega)]
    rw [u64_or_hi 16 (a * 281474976710656 + b * 4294967296 + c * 65536) (d) (by omega) (by omega) (by omega) (by omega) (by omega) (by omega)]
    try omega
  · simp only [word_Join.f, word_Join.j0, word_Join.l0, word_shift.f, rd]
    simp [wrap64, uw0, uw16, uw32, uw48, u64_id ha.1 (by omega : a < 18446744073709551616), u64_id hb.1 (by omega : b < 18446744073709551616), u64_id hc.1 (by omega : c < 18446744073709551616), u64_id hd.1 (by omega : d < 18446744073709551616)]
    rw [show shl .u64 a 0 = a from shl0 a ha.1 ha.2]
    rw [show shl .u64 b 16 = b * 65536 from shl16 b hb.1 hb.2]
    rw [show shl .u64 c 32 = c * 4294967296 from shl32 c hc.1 hc.2]
    rw [show shl .u64 d 48 = d * 281474976710656 from shl48 d hd.1 hd.2]
    rw [or0 (a) (by omega) (by omega)]
    rw [u64_or_lo 16 (a) (b * 65536) (by omega) (by omega) (by omega) (by omega) (by omega) (by omega)]
    rw [u64_or_lo 32 (a + b * 65536) (c * 4294967296) (by omega) (by omega) (by omega) (by omega) (by omega) (by omega)]
    rw [u64_or_lo 48 (a + b * 65536 + c * 4294967296) (d * 281474976710656) (by omega) (by omega) (by omega) (by omega) (by omega) (by omega)]
    try omega
/-- Joined: 1 to 4 words are their number; others are none. -/
theorem join_some (l : List Int) (hl : W16 l) (h1 : 1 ≤ l.length) (h4 : l.length ≤ 4) (little : Bool) {k : Nat} (hk : 8 ≤ k) : word_Join.f k l little = some (big (if little then l.reverse else l), true) := by
  refine at_rounds (word_Join.mono l little) hk ?_
  match l, h1, h4 with
  | [a], _, _ => rw [join1 a little (hl a (by simp))]; cases little <;> simp [big]
  | [a, b], _, _ => have h := join2 a b (hl a (by simp)) (hl b (by simp)); cases little <;> simp [big, h.1, h.2]
  | [a, b, c], _, _ => have h := join3 a b c (hl a (by simp)) (hl b (by simp)) (hl c (by simp)); cases little <;> simp [big, h.1, h.2]
  | [a, b, c, d], _, _ => have h := join4 a b c d (hl a (by simp)) (hl b (by simp)) (hl c (by simp)) (hl d (by simp)); cases little <;> simp [big, h.1, h.2]
theorem join_out (l : List Int) (little : Bool) (h : l.length = 0 ∨ 4 < l.length) {k : Nat} (hk : 8 ≤ k) : word_Join.f k l little = some (0, false) := join_none l little k (by omega) h
end Go.Proofs.Ytkioalfallhegaa.LemWordGCtrl
