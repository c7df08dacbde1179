/- Words and walks for TopBlind (made of the session's own texts; each part by itself). -/
import Derived.RowKit
import Derived.Laws.BitsAllLaws
import Derived.Laws.BitsLemmas
import Derived.Test.YtlalbohhopmpdaaGreatZTopBlind2
set_option maxRecDepth 100000
set_option maxHeartbeats 8000000
set_option linter.unusedVariables false
set_option linter.unusedSimpArgs false
namespace Go.Proofs.YtlalbohhopmpdaaGreat.Num
open Go.RowKit Go.YW.PrintWords Go.YW.PrintMore
theorem wf_i64 {x : Int} (h : (Lit.int .i64 x).wf = true) : -9223372036854775808 ≤ x ∧ x < 9223372036854775808 := by
  simp [Lit.wf, IntKind.min, IntKind.max, IntKind.signed, IntKind.bits] at h; omega
theorem zu {x : Int} (h1 : -9223372036854775808 ≤ x) (h2 : x < 9223372036854775808) : wrap64 x = x := by unfold wrap64; omega
theorem zcY (n : Int) : IntKind.u64.wrap n = n % 18446744073709551616 := by simp [IntKind.wrap, IntKind.bits, IntKind.signed]
theorem za1 {x : Int} (h1 : 0 ≤ x) (h2 : x < 18446744073709551616) : IntKind.u64.wrap x = x := by rw [zcY]; omega
theorem zcU (n : Int) : IntKind.u16.wrap n = n % 65536 := by simp [IntKind.wrap, IntKind.bits, IntKind.signed]
theorem jE {x : Int} (h1 : 0 ≤ x) (h2 : x < 65536) : IntKind.u16.wrap x = x := by rw [zcU]; omega
theorem QW {a b : Int} (h : 0 ≤ a) (hb : 0 ≤ b) : Int.tdiv a b = a / b := Int.tdiv_eq_ediv_of_nonneg h
theorem JZ {a b : Int} (h : 0 ≤ a) : Int.tmod a b = a % b := Int.tmod_eq_emod_of_nonneg h
theorem Wo (n i b : Nat) (h : i < 2 ^ n) : (2 ^ n * b) ||| i = 2 ^ n * b + i := (Nat.two_pow_add_eq_or_of_lt h b).symm
theorem Ya (v w : Int) (h0 : 0 ≤ v) (h1 : v < 65536) (hd : v % 256 = 0) (h2 : 0 ≤ w) (h3 : w < 256) : bits .or .u16 v w = v + w := by
  rw [u16_or v w h0 h1 h2 (by omega)]
  obtain ⟨V, rfl⟩ := Int.eq_ofNat_of_zero_le h0
  obtain ⟨U, rfl⟩ := Int.eq_ofNat_of_zero_le h2
  have hd' : V % 2 ^ 8 = 0 := by omega
  obtain ⟨b, hb⟩ := Nat.dvd_of_mod_eq_zero hd'
  simp only [Int.toNat_natCast]
  rw [hb, Wo 8 U b (by omega)]
  omega
def B8 (l : List Int) : Prop := ∀ x ∈ l, 0 ≤ x ∧ x < 256
theorem zcW (l : List Int) (i : Nat) (h : i < l.length) : rd l (i : Int) = l[i] := by simp [rd, List.getD_eq_getElem?_getD, List.getElem?_eq_getElem h]
end Go.Proofs.YtlalbohhopmpdaaGreat.Num
