/- Plain lemmas on whole numbers: bounds, wraps, bits. -/
import Derived.RowKit
import Derived.Laws.BitsAllLaws
import Derived.Laws.BitsLemmas
import Derived.Test.YtmbkbpaoiilicaaWMore
set_option linter.unusedVariables false
namespace Go.Proofs.Ytmbkbpaoiilicaa.Num
open Go.RowKit Go.Proofs.YtmbkbpaoiilicaaW.PrintWords Go.Proofs.YtmbkbpaoiilicaaW.PrintMore

theorem wf_u8 {x : Int} (h : (Lit.int .u8 x).wf = true) : 0 ≤ x ∧ x < 256 := by
  simp [Lit.wf, IntKind.min, IntKind.max, IntKind.signed, IntKind.bits] at h; omega
theorem wf_u16 {x : Int} (h : (Lit.int .u16 x).wf = true) : 0 ≤ x ∧ x < 65536 := by
  simp [Lit.wf, IntKind.min, IntKind.max, IntKind.signed, IntKind.bits] at h; omega
theorem wf_u64 {x : Int} (h : (Lit.int .u64 x).wf = true) : 0 ≤ x ∧ x < 18446744073709551616 := by
  simp [Lit.wf, IntKind.min, IntKind.max, IntKind.signed, IntKind.bits] at h; omega
theorem wf_i64 {x : Int} (h : (Lit.int .i64 x).wf = true) : -9223372036854775808 ≤ x ∧ x < 9223372036854775808 := by
  simp [Lit.wf, IntKind.min, IntKind.max, IntKind.signed, IntKind.bits] at h; omega
theorem wrap64_id {x : Int} (h1 : -9223372036854775808 ≤ x) (h2 : x < 9223372036854775808) : wrap64 x = x := by unfold wrap64; omega
theorem u64_eq (n : Int) : IntKind.u64.wrap n = n % 18446744073709551616 := by simp [IntKind.wrap, IntKind.bits, IntKind.signed]
theorem u64_id {x : Int} (h1 : 0 ≤ x) (h2 : x < 18446744073709551616) : IntKind.u64.wrap x = x := by rw [u64_eq]; omega
theorem u16_eq (n : Int) : IntKind.u16.wrap n = n % 65536 := by simp [IntKind.wrap, IntKind.bits, IntKind.signed]
theorem u16_id {x : Int} (h1 : 0 ≤ x) (h2 : x < 65536) : IntKind.u16.wrap x = x := by rw [u16_eq]; omega
theorem i16_eq (n : Int) : IntKind.i16.wrap n = (n + 32768) % 65536 - 32768 := by
  simp [IntKind.wrap, IntKind.bits, IntKind.signed]; omega
theorem tdiv_pos {a b : Int} (h : 0 ≤ a) (hb : 0 ≤ b) : Int.tdiv a b = a / b := Int.tdiv_eq_ediv_of_nonneg h
theorem tmod_pos {a b : Int} (h : 0 ≤ a) : Int.tmod a b = a % b := Int.tmod_eq_emod_of_nonneg h

theorem nat_or_hi (n i b : Nat) (h : i < 2 ^ n) : (2 ^ n * b) ||| i = 2 ^ n * b + i := (Nat.two_pow_add_eq_or_of_lt h b).symm
theorem u64_or_hi (n : Nat) (v w : Int) (h0 : 0 ≤ v) (h1 : v < 18446744073709551616) (hd : v % (2 ^ n : Nat) = 0) (h2 : 0 ≤ w) (h3 : w < (2 ^ n : Nat)) (h4 : w < 18446744073709551616) : bits .or .u64 v w = v + w := by
  rw [u64_or v w h0 h1 h2 h4]
  obtain ⟨V, rfl⟩ := Int.eq_ofNat_of_zero_le h0
  obtain ⟨U, rfl⟩ := Int.eq_ofNat_of_zero_le h2
  have hd' : V % 2 ^ n = 0 := by exact_mod_cast hd
  have h3' : U < 2 ^ n := by exact_mod_cast h3
  obtain ⟨b, hb⟩ := Nat.dvd_of_mod_eq_zero hd'
  simp only [Int.toNat_natCast]
  rw [hb, nat_or_hi n U b h3']
  omega
theorem u64_or_comm (v w : Int) (h0 : 0 ≤ v) (h1 : v < 18446744073709551616) (h2 : 0 ≤ w) (h4 : w < 18446744073709551616) : bits .or .u64 v w = bits .or .u64 w v := by
  rw [u64_or v w h0 h1 h2 h4, u64_or w v h2 h4 h0 h1, Nat.or_comm]
theorem u64_or_lo (n : Nat) (v w : Int) (h0 : 0 ≤ v) (h1 : v < 18446744073709551616) (hd : w % (2 ^ n : Nat) = 0) (h2 : 0 ≤ w) (h3 : v < (2 ^ n : Nat)) (h4 : w < 18446744073709551616) : bits .or .u64 v w = v + w := by
  rw [u64_or_comm v w h0 h1 h2 h4, u64_or_hi n w v h2 h4 hd h0 h3 h1]; omega
theorem u64_or_zero (w : Int) (h2 : 0 ≤ w) (h4 : w < 18446744073709551616) : bits .or .u64 0 w = w := by
  rw [u64_or 0 w (by omega) (by omega) h2 h4]; simp; omega
theorem u16_or_hi (v w : Int) (h0 : 0 ≤ v) (h1 : v < 65536) (hd : v % 256 = 0) (h2 : 0 ≤ w) (h3 : w < 256) : bits .or .u16 v w = v + w := by
  rw [u16_or v w h0 h1 h2 (by omega)]
  obtain ⟨V, rfl⟩ := Int.eq_ofNat_of_zero_le h0
  obtain ⟨U, rfl⟩ := Int.eq_ofNat_of_zero_le h2
  have hd' : V % 2 ^ 8 = 0 := by omega
  obtain ⟨b, hb⟩ := Nat.dvd_of_mod_eq_zero hd'
  simp only [Int.toNat_natCast]
  rw [hb, nat_or_hi 8 U b (by omega)]
  omega
theorem shl0 (x : Int) (h0 : 0 ≤ x) (h1 : x < 65536) : shl .u64 x 0 = x := by simp [shl, u64_eq]; omega
theorem shl16 (x : Int) (h0 : 0 ≤ x) (h1 : x < 65536) : shl .u64 x 16 = x * 65536 := by simp [shl, IntKind.bits, u64_eq]; omega
theorem shl32 (x : Int) (h0 : 0 ≤ x) (h1 : x < 65536) : shl .u64 x 32 = x * 4294967296 := by simp [shl, IntKind.bits, u64_eq]; omega
theorem shl48 (x : Int) (h0 : 0 ≤ x) (h1 : x < 65536) : shl .u64 x 48 = x * 281474976710656 := by simp [shl, IntKind.bits, u64_eq]; omega
theorem shr_n (x : Int) (n : Nat) (h : n ≤ 64) : shr .u64 x (n : Int) = x / (2 ^ n : Nat) := by
  have : min n IntKind.u64.bits = n := by simp [IntKind.bits]; omega
  simp only [shr, Int.toNat_natCast, this]; simp
def W16 (l : List Int) : Prop := ∀ x ∈ l, 0 ≤ x ∧ x < 65536
theorem w16_of {l : List Int} (h : ∀ x ∈ l, (Lit.int .u16 x).wf = true) : W16 l := fun x hx => wf_u16 (h x hx)
def B8 (l : List Int) : Prop := ∀ x ∈ l, 0 ≤ x ∧ x < 256
theorem b8_of {l : List Int} (h : ∀ x ∈ l, (Lit.int .u8 x).wf = true) : B8 l := fun x hx => wf_u8 (h x hx)
theorem rd_get (l : List Int) (i : Nat) (h : i < l.length) : rd l (i : Int) = l[i] := by simp [rd, List.getD_eq_getElem?_getD, List.getElem?_eq_getElem h]
/-- Words as bytes. -/
def raw (l : List Int) : List Int := l.flatMap fun w => [w / 256, w % 256]
theorem raw_length (l : List Int) : (raw l).length = 2 * l.length := by induction l with
  | nil => rfl
  | cons a l ih => simp [raw] at ih ⊢; omega
theorem raw_append (l m : List Int) : raw (l ++ m) = raw l ++ raw m := by simp [raw]
theorem raw_byte (l : List Int) (h : W16 l) : ∀ x ∈ raw l, 0 ≤ x ∧ x < 256 := by
  intro x hx
  simp only [raw, List.mem_flatMap, List.mem_cons, List.not_mem_nil, or_false] at hx
  obtain ⟨w, hw, rfl | rfl⟩ := hx
  · have := h w hw; omega
  · have := h w hw; omega
theorem raw_at (l : List Int) (i : Nat) (h : i < l.length) : (raw l)[2 * i]'(by rw [raw_length]; omega) = l[i] / 256 ∧ (raw l)[2 * i + 1]'(by rw [raw_length]; omega) = l[i] % 256 := by
  induction l generalizing i with
  | nil => simp at h
  | cons a l ih =>
    cases i with
    | zero => simp [raw]
    | succ i =>
      have := ih i (by simpa using h)
      have e : raw (a :: l) = [a / 256, a % 256] ++ raw l := by simp [raw]
      constructor
      · simp only [e]; rw [List.getElem_append_right (by simp; omega)]; simp [Nat.mul_add]; exact this.1
      · simp only [e]; rw [List.getElem_append_right (by simp; omega)]; simp [Nat.mul_add]; exact this.2
end Go.Proofs.Ytmbkbpaoiilicaa.Num
