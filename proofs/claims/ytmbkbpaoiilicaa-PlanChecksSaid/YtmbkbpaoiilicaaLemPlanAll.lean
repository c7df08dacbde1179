import Derived.RowKit
import Derived.Laws.BitsAllLaws
import Derived.Laws.BitsLemmas
import Derived.Test.YtmbkbpaoiilicaaWMore
import Derived.Test.YtmbkbpaoiilicaaPPlanLx0
import Derived.Test.YtmbkbpaoiilicaaPPlanLx2
import Derived.Test.YtmbkbpaoiilicaaPPlanLx4
import Derived.Test.YtmbkbpaoiilicaaPPlanLx11
import Derived.Test.YtmbkbpaoiilicaaPPlanLx12
import Derived.Test.YtmbkbpaoiilicaaPPlanLx13
import Derived.Test.YtmbkbpaoiilicaaPPlanLx9
import Derived.Test.YtmbkbpaoiilicaaPPlanLx3
import Derived.Test.YtmbkbpaoiilicaaPPlanLx7
import Derived.Test.YtmbkbpaoiilicaaPPlanLx15
import Derived.Test.YtmbkbpaoiilicaaPPlanLx10
import Derived.Test.YtmbkbpaoiilicaaPPlanLx17
import Derived.Test.YtmbkbpaoiilicaaPPlanLx14
import Derived.Test.YtmbkbpaoiilicaaPPlanLx5
import Derived.Test.YtmbkbpaoiilicaaPPlanLx16
import Derived.Test.YtmbkbpaoiilicaaPPlanLx6
/- Plain lemmas on whole numbers: bounds, wraps, bits. -/
set_option linter.unusedVariables false
namespace Go.Proofs.Ytmbkbpaoiilicaa.Num
open Go.RowKit Go.Proofs.YtmbkbpaoiilicaaW.PrintWords Go.Proofs.YtmbkbpaoiilicaaW.PrintMore

theorem wf_u8 {x : Int} (h : (Lit.int .u8 x).wf = true) : 0 ≤ x ∧ x < 256 := by
  simp [Lit.wf, IntKind.min, IntKind.max, IntKind.signed, IntKind.bits] at h; omega
theorem wf_u16 {x : Int} (h : (Lit.int .u16 x).wf = true) : 0 ≤ x ∧ x < 65536 := by
  simp [Lit.wf, IntKind.min, IntKind.max, IntKind.signed, IntKind.bits] at h; omega
theorem wf_u64 {x : Int} (h : (Lit.int .u64 x).wf = true) : 0 ≤ x ∧ x < 18446744073709551616 := by
  simp [Lit.wf, IntKind.min, IntKind.max, IntKind.signed, IntKind.bits] at h; omega
theorem wf_i64 {x : Int} (h : (Lit.int .i64 x).wf = true) : -9223372036854775808 ≤ x ∧ x < 9223372036854775808 := by
  simp [Lit.wf, IntKind.min, IntKind.max, IntKind.signed, IntKind.bits] at h; omega
theorem wrap64_id {x : Int} (h1 : -9223372036854775808 ≤ x) (h2 : x < 9223372036854775808) : wrap64 x = x := by unfold wrap64; omega
theorem u64_eq (n : Int) : IntKind.u64.wrap n = n % 18446744073709551616 := by simp [IntKind.wrap, IntKind.bits, IntKind.signed]
theorem u64_id {x : Int} (h1 : 0 ≤ x) (h2 : x < 18446744073709551616) : IntKind.u64.wrap x = x := by rw [u64_eq]; omega
theorem u16_eq (n : Int) : IntKind.u16.wrap n = n % 65536 := by simp [IntKind.wrap, IntKind.bits, IntKind.signed]
theorem u16_id {x : Int} (h1 : 0 ≤ x) (h2 : x < 65536) : IntKind.u16.wrap x = x := by rw [u16_eq]; omega
theorem i16_eq (n : Int) : IntKind.i16.wrap n = (n + 32768) % 65536 - 32768 := by
  simp [IntKind.wrap, IntKind.bits, IntKind.signed]; omega
theorem tdiv_pos {a b : Int} (h : 0 ≤ a) (hb : 0 ≤ b) : Int.tdiv a b = a / b := Int.tdiv_eq_ediv_of_nonneg h
theorem tmod_pos {a b : Int} (h : 0 ≤ a) : Int.tmod a b = a % b := Int.tmod_eq_emod_of_nonneg h

theorem nat_or_hi (n i b : Nat) (h : i < 2 ^ n) : (2 ^ n * b) ||| i = 2 ^ n * b + i := (Nat.two_pow_add_eq_or_of_lt h b).symm
theorem u64_or_hi (n : Nat) (v w : Int) (h0 : 0 ≤ v) (h1 : v < 18446744073709551616) (hd : v % (2 ^ n : Nat) = 0) (h2 : 0 ≤ w) (h3 : w < (2 ^ n : Nat)) (h4 : w < 18446744073709551616) : bits .or .u64 v w = v + w := by
  rw [u64_or v w h0 h1 h2 h4]
  obtain ⟨V, rfl⟩ := Int.eq_ofNat_of_zero_le h0
  obtain ⟨U, rfl⟩ := Int.eq_ofNat_of_zero_le h2
  have hd' : V % 2 ^ n = 0 := by exact_mod_cast hd
  have h3' : U < 2 ^ n := by exact_mod_cast h3
  obtain ⟨b, hb⟩ := Nat.dvd_of_mod_eq_zero hd'
  simp only [Int.toNat_natCast]
  rw [hb, nat_or_hi n U b h3']
  omega
theorem u64_or_comm (v w : Int) (h0 : 0 ≤ v) (h1 : v < 18446744073709551616) (h2 : 0 ≤ w) (h4 : w < 18446744073709551616) : bits .or .u64 v w = bits .or .u64 w v := by
  rw [u64_or v w h0 h1 h2 h4, u64_or w v h2 h4 h0 h1, Nat.or_comm]
theorem u64_or_lo (n : Nat) (v w : Int) (h0 : 0 ≤ v) (h1 : v < 18446744073709551616) (hd : w % (2 ^ n : Nat) = 0) (h2 : 0 ≤ w) (h3 : v < (2 ^ n : Nat)) (h4 : w < 18446744073709551616) : bits .or .u64 v w = v + w := by
  rw [u64_or_comm v w h0 h1 h2 h4, u64_or_hi n w v h2 h4 hd h0 h3 h1]; omega
theorem u64_or_zero (w : Int) (h2 : 0 ≤ w) (h4 : w < 18446744073709551616) : bits .or .u64 0 w = w := by
  rw [u64_or 0 w (by omega) (by omega) h2 h4]; simp; omega
theorem u16_or_hi (v w : Int) (h0 : 0 ≤ v) (h1 : v < 65536) (hd : v % 256 = 0) (h2 : 0 ≤ w) (h3 : w < 256) : bits .or .u16 v w = v + w := by
  rw [u16_or v w h0 h1 h2 (by omega)]
  obtain ⟨V, rfl⟩ := Int.eq_ofNat_of_zero_le h0
  obtain ⟨U, rfl⟩ := Int.eq_ofNat_of_zero_le h2
  have hd' : V % 2 ^ 8 = 0 := by omega
  obtain ⟨b, hb⟩ := Nat.dvd_of_mod_eq_zero hd'
  simp only [Int.toNat_natCast]
  rw [hb, nat_or_hi 8 U b (by omega)]
  omega
theorem shl0 (x : Int) (h0 : 0 ≤ x) (h1 : x < 65536) : shl .u64 x 0 = x := by simp [shl, u64_eq]; omega
theorem shl16 (x : Int) (h0 : 0 ≤ x) (h1 : x < 65536) : shl .u64 x 16 = x * 65536 := by simp [shl, IntKind.bits, u64_eq]; omega
theorem shl32 (x : Int) (h0 : 0 ≤ x) (h1 : x < 65536) : shl .u64 x 32 = x * 4294967296 := by simp [shl, IntKind.bits, u64_eq]; omega
theorem shl48 (x : Int) (h0 : 0 ≤ x) (h1 : x < 65536) : shl .u64 x 48 = x * 281474976710656 := by simp [shl, IntKind.bits, u64_eq]; omega
theorem shr_n (x : Int) (n : Nat) (h : n ≤ 64) : shr .u64 x (n : Int) = x / (2 ^ n : Nat) := by
  have : min n IntKind.u64.bits = n := by simp [IntKind.bits]; omega
  simp only [shr, Int.toNat_natCast, this]; simp
def W16 (l : List Int) : Prop := ∀ x ∈ l, 0 ≤ x ∧ x < 65536
theorem w16_of {l : List Int} (h : ∀ x ∈ l, (Lit.int .u16 x).wf = true) : W16 l := fun x hx => wf_u16 (h x hx)
def B8 (l : List Int) : Prop := ∀ x ∈ l, 0 ≤ x ∧ x < 256
theorem b8_of {l : List Int} (h : ∀ x ∈ l, (Lit.int .u8 x).wf = true) : B8 l := fun x hx => wf_u8 (h x hx)
theorem rd_get (l : List Int) (i : Nat) (h : i < l.length) : rd l (i : Int) = l[i] := by simp [rd, List.getD_eq_getElem?_getD, List.getElem?_eq_getElem h]
/-- Words as bytes. -/
def raw (l : List Int) : List Int := l.flatMap fun w => [w / 256, w % 256]
theorem raw_length (l : List Int) : (raw l).length = 2 * l.length := by induction l with
  | nil => rfl
  | cons a l ih => simp [raw] at ih ⊢; omega
theorem raw_append (l m : List Int) : raw (l ++ m) = raw l ++ raw m := by simp [raw]
theorem raw_byte (l : List Int) (h : W16 l) : ∀ x ∈ raw l, 0 ≤ x ∧ x < 256 := by
  intro x hx
  simp only [raw, List.mem_flatMap, List.mem_cons, List.not_mem_nil, or_false] at hx
  obtain ⟨w, hw, rfl | rfl⟩ := hx
  · have := h w hw; omega
  · have := h w hw; omega
theorem raw_at (l : List Int) (i : Nat) (h : i < l.length) : (raw l)[2 * i]'(by rw [raw_length]; omega) = l[i] / 256 ∧ (raw l)[2 * i + 1]'(by rw [raw_length]; omega) = l[i] % 256 := by
  induction l generalizing i with
  | nil => simp at h
  | cons a l ih =>
    cases i with
    | zero => simp [raw]
    | succ i =>
      have := ih i (by simpa using h)
      have e : raw (a :: l) = [a / 256, a % 256] ++ raw l := by simp [raw]
      constructor
      · simp only [e]; rw [List.getElem_append_right (by simp; omega)]; simp [Nat.mul_add]; exact this.1
      · simp only [e]; rw [List.getElem_append_right (by simp; omega)]; simp [Nat.mul_add]; exact this.2
end Go.Proofs.Ytmbkbpaoiilicaa.Num

/- Rows of addresses as plain lists (group PlanL, the span's struct S32): right, canonical, added, taken away; no program in sight. -/
set_option linter.unusedVariables false
set_option linter.unusedSimpArgs false
namespace Go.Proofs.Ytmbkbpaoiilicaa.LemSpanPlanL
open Go.RowKit Go.Proofs.Ytmbkbpaoiilicaa.PPlanL Go.Proofs.YtmbkbpaoiilicaaW.PrintWords Go.Proofs.YtmbkbpaoiilicaaW.PrintLast Go.Proofs.YtmbkbpaoiilicaaW.PrintMore Go.Proofs.Ytmbkbpaoiilicaa.Num

abbrev S := S32
def Rt (s : S) : Prop := 0 ≤ s.f0 ∧ s.f0 < 4 ∧ 0 ≤ s.f1 ∧ s.f2 ≤ 65536 ∧ s.f1 < s.f2
instance (s : S) : Decidable (Rt s) := by unfold Rt; infer_instance
def Ah (a b : S) : Prop := a.f0 < b.f0 ∨ (a.f0 = b.f0 ∧ a.f2 < b.f1)
instance (a b : S) : Decidable (Ah a b) := by unfold Ah; infer_instance
def Cn : List S → Prop
  | [] => True
  | x :: l => Rt x ∧ (∀ y ∈ l, Ah x y) ∧ Cn l
/-- Two spans that touch, as one. -/
def mg (s x : S) : S := ⟨s.f0, mn s.f1 x.f1, mx s.f2 x.f2⟩
def add : List S → S → List S
  | [], s => [s]
  | x :: l, s => if Ah x s then x :: add l s else if Ah s x then s :: x :: l else add l (mg s x)
/-- What of x is not in s. -/
def pieces (x s : S) : List S :=
  if x.f0 = s.f0 ∧ s.f1 < x.f2 ∧ x.f1 < s.f2 then (if x.f1 < s.f1 then [⟨x.f0, x.f1, s.f1⟩] else []) ++ (if s.f2 < x.f2 then [⟨x.f0, s.f2, x.f2⟩] else []) else [x]
def cut (l : List S) (s : S) : List S := l.flatMap fun x => pieces x s
def In (x : S) (t p : Int) : Prop := x.f0 = t ∧ x.f1 ≤ p ∧ p < x.f2
instance (x : S) (t p : Int) : Decidable (In x t p) := by unfold In; infer_instance
def Has (l : List S) (t p : Int) : Prop := ∃ x ∈ l, In x t p

theorem Ah_trans {a b c : S} (hb : Rt b) (h : Ah a b) (k : Ah b c) : Ah a c := by
  unfold Ah Rt at *; omega
theorem Ah_asym {a b : S} (ha : Rt a) (hb : Rt b) (h : Ah a b) : ¬ Ah b a := by
  unfold Ah Rt at *; omega
theorem mg_rt {s x : S} (hs : Rt s) (hx : Rt x) (h1 : ¬ Ah x s) (h2 : ¬ Ah s x) : Rt (mg s x) := by
  unfold Rt Ah mg mn mx at *
  dsimp only
  split <;> split <;> omega
theorem mg_same {s x : S} (h1 : ¬ Ah x s) (h2 : ¬ Ah s x) : s.f0 = x.f0 ∧ s.f1 ≤ x.f2 ∧ x.f1 ≤ s.f2 := by
  unfold Ah at *; omega
theorem mg_in {s x : S} (hs : Rt s) (hx : Rt x) (h1 : ¬ Ah x s) (h2 : ¬ Ah s x) (t p : Int) : In (mg s x) t p ↔ In s t p ∨ In x t p := by
  have := mg_same h1 h2
  unfold Rt at *
  unfold In mg mn mx
  dsimp only
  split <;> split <;> omega
theorem has_nil (t p : Int) : ¬ Has [] t p := by simp [Has]
theorem has_cons (x : S) (l : List S) (t p : Int) : Has (x :: l) t p ↔ In x t p ∨ Has l t p := by simp [Has]
theorem has_append (l m : List S) (t p : Int) : Has (l ++ m) t p ↔ Has l t p ∨ Has m t p := by
  simp only [Has, List.mem_append]
  constructor
  · rintro ⟨x, hx | hx, h⟩
    · exact .inl ⟨x, hx, h⟩
    · exact .inr ⟨x, hx, h⟩
  · rintro (⟨x, hx, h⟩ | ⟨x, hx, h⟩)
    · exact ⟨x, .inl hx, h⟩
    · exact ⟨x, .inr hx, h⟩
/-- What stands ahead of s and of l's elements stands ahead of all of add l s. -/
theorem add_ahead (x : S) : ∀ (l : List S) (s : S), Cn l → Rt s → Ah x s → (∀ y ∈ l, Ah x y) → ∀ y ∈ add l s, Ah x y
  | [], s, _, _, hs, _, y, hy => by simp [add] at hy; subst hy; exact hs
  | z :: l, s, hc, hr, hs, hl, y, hy => by
    unfold add at hy
    by_cases h1 : Ah z s
    · rw [if_pos h1] at hy
      rcases List.mem_cons.1 hy with rfl | hy
      · exact hl _ (by simp)
      · exact add_ahead x l s hc.2.2 hr hs (fun y hy => hl y (by simp [hy])) y hy
    · rw [if_neg h1] at hy
      by_cases h2 : Ah s z
      · rw [if_pos h2] at hy
        rcases List.mem_cons.1 hy with rfl | hy
        · exact hs
        · exact hl y hy
      · rw [if_neg h2] at hy
        refine add_ahead x l (mg s z) hc.2.2 (mg_rt hr hc.1 h1 h2) ?_ (fun y hy => hl y (by simp [hy])) y hy
        have hz := hl z (by simp)
        have := mg_same h1 h2
        unfold Ah mg mn at *
        dsimp only
        split <;> omega
theorem add_can : ∀ (l : List S) (s : S), Cn l → Rt s → Cn (add l s)
  | [], s, _, hr => ⟨hr, by simp, trivial⟩
  | x :: l, s, hc, hr => by
    unfold add
    by_cases h1 : Ah x s
    · rw [if_pos h1]
      exact ⟨hc.1, add_ahead x l s hc.2.2 hr h1 hc.2.1, add_can l s hc.2.2 hr⟩
    · rw [if_neg h1]
      by_cases h2 : Ah s x
      · rw [if_pos h2]
        refine ⟨hr, fun y hy => ?_, hc⟩
        rcases List.mem_cons.1 hy with rfl | hy
        · exact h2
        · exact Ah_trans hc.1 h2 (hc.2.1 y hy)
      · rw [if_neg h2]
        exact add_can l (mg s x) hc.2.2 (mg_rt hr hc.1 h1 h2)
theorem add_has (t p : Int) : ∀ (l : List S) (s : S), Cn l → Rt s → (Has (add l s) t p ↔ Has l t p ∨ In s t p)
  | [], s, _, _ => by simp [add, Has]
  | x :: l, s, hc, hr => by
    unfold add
    by_cases h1 : Ah x s
    · rw [if_pos h1, has_cons, has_cons, add_has t p l s hc.2.2 hr, or_assoc]
    · rw [if_neg h1]
      by_cases h2 : Ah s x
      · rw [if_pos h2, has_cons, or_comm]
      · rw [if_neg h2, add_has t p l (mg s x) hc.2.2 (mg_rt hr hc.1 h1 h2), mg_in hr hc.1 h1 h2, has_cons]
        constructor
        · rintro (h | h | h)
          · exact .inl (.inr h)
          · exact .inr h
          · exact .inl (.inl h)
        · rintro ((h | h) | h)
          · exact .inr (.inr h)
          · exact .inl h
          · exact .inr (.inl h)
theorem add_length : ∀ (l : List S) (s : S), (add l s).length ≤ l.length + 1
  | [], s => by simp [add]
  | x :: l, s => by
    unfold add
    by_cases h1 : Ah x s
    · rw [if_pos h1]; have := add_length l s; simp; omega
    · rw [if_neg h1]
      by_cases h2 : Ah s x
      · rw [if_pos h2]; simp
      · rw [if_neg h2]; have := add_length l (mg s x); simp; omega
theorem pieces_mem {x s y : S} (hx : Rt x) (hs : Rt s) (h : y ∈ pieces x s) : Rt y ∧ y.f0 = x.f0 ∧ x.f1 ≤ y.f1 ∧ y.f2 ≤ x.f2 := by
  unfold pieces at h
  unfold Rt at *
  split at h
  · rw [List.mem_append] at h
    rcases h with h | h
    · split at h
      · simp at h; subst h; dsimp only; omega
      · simp at h
    · split at h
      · simp at h; subst h; dsimp only; omega
      · simp at h
  · simp at h; subst h; omega
theorem cut_ahead {x s : S} {l : List S} (hc : Cn l) (hs : Rt s) (h : ∀ y ∈ l, Ah x y) : ∀ y ∈ cut l s, Ah x y := by
  intro y hy
  induction l with
  | nil => simp [cut] at hy
  | cons z l ih =>
    simp only [cut, List.flatMap_cons, List.mem_append] at hy
    rcases hy with hy | hy
    · have hp := pieces_mem hc.1 hs hy
      have hz := h z (by simp)
      unfold Ah Rt at *; omega
    · exact ih hc.2.2 (fun y hy => h y (by simp [hy])) hy
theorem can_append : ∀ {l m : List S}, Cn l → Cn m → (∀ x ∈ l, ∀ y ∈ m, Ah x y) → Cn (l ++ m)
  | [], _, _, hm, _ => hm
  | x :: l, m, hl, hm, h => ⟨hl.1, fun y hy => by
      rcases List.mem_append.1 hy with hy | hy
      · exact hl.2.1 y hy
      · exact h x (by simp) y hy, can_append hl.2.2 hm (fun x hx y hy => h x (by simp [hx]) y hy)⟩
theorem pieces_can {x s : S} (hx : Rt x) (hs : Rt s) : Cn (pieces x s) := by
  unfold pieces
  split
  · rename_i h
    split <;> split <;> simp only [List.append_nil, List.nil_append, List.cons_append, Cn, List.not_mem_nil, List.mem_cons, or_false, false_implies, implies_true, forall_eq, and_true]
    · (try unfold Ah at *); unfold Rt at *; dsimp only; omega
    · (try unfold Ah at *); unfold Rt at *; dsimp only; omega
    · (try unfold Ah at *); unfold Rt at *; dsimp only; omega
  · simp [Cn]; exact hx
theorem cut_can : ∀ (l : List S) (s : S), Cn l → Rt s → Cn (cut l s)
  | [], s, _, _ => trivial
  | x :: l, s, hc, hr => by
    show Cn (pieces x s ++ cut l s)
    refine can_append (pieces_can hc.1 hr) (cut_can l s hc.2.2 hr) (fun y hy z hz => ?_)
    have h1 := cut_ahead (x := x) hc.2.2 hr hc.2.1 z hz
    have h2 := pieces_mem hc.1 hr hy
    unfold Ah Rt at *; omega
theorem pieces_has {x s : S} (hx : Rt x) (hs : Rt s) (t p : Int) : Has (pieces x s) t p ↔ In x t p ∧ ¬ In s t p := by
  unfold pieces Rt at *
  split
  · rename_i h
    rw [has_append]
    split <;> split <;> simp only [has_nil, has_cons, or_false, false_or] <;> unfold In <;> (try dsimp only) <;> first | omega | (simp only [false_iff]; omega) | (constructor <;> intro h <;> first | exact h.elim | (exfalso; omega))
  · rw [has_cons]
    simp only [has_nil, or_false]
    unfold In; omega
theorem cut_has (t p : Int) : ∀ (l : List S) (s : S), Cn l → Rt s → (Has (cut l s) t p ↔ Has l t p ∧ ¬ In s t p)
  | [], s, _, _ => by simp [cut, Has]
  | x :: l, s, hc, hr => by
    show Has (pieces x s ++ cut l s) t p ↔ _
    rw [has_append, pieces_has hc.1 hr, cut_has t p l s hc.2.2 hr, has_cons]
    constructor
    · rintro (⟨h, k⟩ | ⟨h, k⟩)
      · exact ⟨.inl h, k⟩
      · exact ⟨.inr h, k⟩
    · rintro ⟨h | h, k⟩
      · exact .inl ⟨h, k⟩
      · exact .inr ⟨h, k⟩
theorem pieces_length (x s : S) : (pieces x s).length ≤ 2 := by
  unfold pieces
  split
  · split <;> split <;> simp
  · simp
theorem cut_length : ∀ (l : List S) (s : S), (cut l s).length ≤ 2 * l.length
  | [], s => by simp [cut]
  | x :: l, s => by
    have h1 := pieces_length x s
    have h2 := cut_length l s
    show (pieces x s ++ cut l s).length ≤ _
    simp; omega
/-- Canonical lists with the same addresses are the same. -/
theorem can_first {x : S} {l : List S} (hc : Cn (x :: l)) (t p : Int) (h : Has (x :: l) t p) : x.f0 < t ∨ (x.f0 = t ∧ x.f1 ≤ p) := by
  rw [has_cons] at h
  rcases h with h | ⟨y, hy, h⟩
  · unfold In at h; omega
  · have := hc.2.1 y hy
    have hr := hc.1
    unfold In at h
    unfold Ah Rt at *; omega
theorem can_rt : ∀ {l : List S}, Cn l → ∀ x ∈ l, Rt x
  | x :: l, hc, y, hy => by
    rcases List.mem_cons.1 hy with rfl | hy
    · exact hc.1
    · exact can_rt hc.2.2 y hy
theorem can_tail_out {x : S} {l : List S} (hc : Cn (x :: l)) (t p : Int) (h : Has l t p) : x.f0 < t ∨ (x.f0 = t ∧ x.f2 < p) := by
  obtain ⟨y, hy, h⟩ := h
  have := hc.2.1 y hy
  unfold In at h
  unfold Ah at this; omega
theorem can_eq : ∀ (l m : List S), Cn l → Cn m → (∀ t p, Has l t p ↔ Has m t p) → l = m
  | [], [], _, _, _ => rfl
  | [], y :: m, _, hm, h => by
    have hy := hm.1
    exact absurd ((h y.f0 y.f1).2 ((has_cons _ _ _ _).2 (.inl (by unfold In; unfold Rt at hy; omega)))) (has_nil _ _)
  | x :: l, [], hl, _, h => by
    have hx := hl.1
    exact absurd ((h x.f0 x.f1).1 ((has_cons _ _ _ _).2 (.inl (by unfold In; unfold Rt at hx; omega)))) (has_nil _ _)
  | x :: l, y :: m, hl, hm, h => by
    have hx := hl.1
    have hy := hm.1
    have h1 := can_first hm _ _ ((h x.f0 x.f1).1 ((has_cons _ _ _ _).2 (.inl (by unfold In; unfold Rt at hx; omega))))
    have h2 := can_first hl _ _ ((h y.f0 y.f1).2 ((has_cons _ _ _ _).2 (.inl (by unfold In; unfold Rt at hy; omega))))
    have e0 : x.f0 = y.f0 := by omega
    have e1 : x.f1 = y.f1 := by omega
    have e2 : x.f2 = y.f2 := by
      by_cases hlt : x.f2 < y.f2
      · have h3 := (h x.f0 x.f2).2 ((has_cons _ _ _ _).2 (.inl (by unfold In; unfold Rt at hx hy; omega)))
        rcases (has_cons _ _ _ _).1 h3 with h4 | h4
        · unfold In at h4; omega
        · have := can_tail_out hl _ _ h4; omega
      · by_cases hgt : y.f2 < x.f2
        · have h3 := (h y.f0 y.f2).1 ((has_cons _ _ _ _).2 (.inl (by unfold In; unfold Rt at hx hy; omega)))
          rcases (has_cons _ _ _ _).1 h3 with h4 | h4
          · unfold In at h4; omega
          · have := can_tail_out hm _ _ h4; omega
        · omega
    have e : x = y := by
      cases x; cases y; simp_all
    subst e
    congr 1
    refine can_eq l m hl.2.2 hm.2.2 (fun t p => ?_)
    have := h t p
    rw [has_cons, has_cons] at this
    constructor
    · intro k
      rcases this.1 (.inr k) with k2 | k2
      · have := can_tail_out hl _ _ k
        unfold In at k2; omega
      · exact k2
    · intro k
      rcases this.2 (.inr k) with k2 | k2
      · have := can_tail_out hm _ _ k
        unfold In at k2; omega
      · exact k2
/-- How many addresses there are; how many of s. -/
def size : List S → Int
  | [] => 0
  | x :: l => (x.f2 - x.f1) + size l
def over (x s : S) : Int := if x.f0 = s.f0 ∧ s.f1 < x.f2 ∧ x.f1 < s.f2 then mn x.f2 s.f2 - mx x.f1 s.f1 else 0
def inter : List S → S → Int
  | [], _ => 0
  | x :: l, s => over x s + inter l s
theorem size_append (l m : List S) : size (l ++ m) = size l + size m := by
  induction l with
  | nil => simp [size]
  | cons x l ih => simp [size, ih]; omega
theorem size_cut : ∀ (l : List S) (s : S), Cn l → Rt s → size (cut l s) + inter l s = size l
  | [], s, _, _ => rfl
  | x :: l, s, hc, hr => by
    have ih := size_cut l s hc.2.2 hr
    have hx := hc.1
    show size (pieces x s ++ cut l s) + _ = _
    rw [size_append]
    simp only [inter, size]
    have : size (pieces x s) + over x s = x.f2 - x.f1 := by
      unfold pieces over Rt mn mx at *
      split
      · split <;> split <;> simp only [List.append_nil, List.nil_append, List.cons_append, size] <;> (repeat' split) <;> omega
      · simp only [size]; omega
    omega
theorem inter_ahead {s : S} : ∀ (l : List S), (∀ x ∈ l, Ah s x) → inter l s = 0
  | [], _ => rfl
  | x :: l, h => by
    have hx := h x (by simp)
    simp only [inter, inter_ahead l (fun x hx => h x (by simp [hx])), over]
    unfold Ah at hx
    rw [if_neg (by omega)]; rfl
theorem inter_mg {s x : S} (hs : Rt s) (hx : Rt x) (h1 : ¬ Ah x s) (h2 : ¬ Ah s x) : ∀ (l : List S), (∀ y ∈ l, Ah x y) → Cn l → inter l (mg s x) = inter l s
  | [], _, _ => rfl
  | y :: l, h, hc => by
    have hy := h y (by simp)
    have hry := hc.1
    simp only [inter, inter_mg hs hx h1 h2 l (fun y hy => h y (by simp [hy])) hc.2.2]
    congr 1
    have := mg_same h1 h2
    unfold over mg mn mx Ah Rt at *
    dsimp only
    (repeat' split) <;> omega
theorem size_add : ∀ (l : List S) (s : S), Cn l → Rt s → size (add l s) + inter l s = size l + (s.f2 - s.f1)
  | [], s, _, _ => by simp [add, size, inter]
  | x :: l, s, hc, hr => by
    have hx := hc.1
    unfold add
    by_cases h1 : Ah x s
    · rw [if_pos h1]
      have ih := size_add l s hc.2.2 hr
      simp only [size, inter]
      have : over x s = 0 := by unfold over; unfold Ah at h1; rw [if_neg (by omega)]
      omega
    · rw [if_neg h1]
      by_cases h2 : Ah s x
      · rw [if_pos h2]
        have := inter_ahead (s := s) (x :: l) (fun y hy => by
          rcases List.mem_cons.1 hy with rfl | hy
          · exact h2
          · exact Ah_trans hc.1 h2 (hc.2.1 y hy))
        rw [this]
        simp only [size]; omega
      · rw [if_neg h2]
        have ih := size_add l (mg s x) hc.2.2 (mg_rt hr hc.1 h1 h2)
        rw [inter_mg hr hc.1 h1 h2 l hc.2.1 hc.2.2] at ih
        simp only [size, inter]
        have : (mg s x).f2 - (mg s x).f1 + over x s = (x.f2 - x.f1) + (s.f2 - s.f1) := by
          have := mg_same h1 h2
          unfold over mg mn mx Rt at *
          dsimp only
          (repeat' split) <;> omega
        omega
theorem over_bounds {x s : S} (hx : Rt x) (hs : Rt s) : 0 ≤ over x s := by
  unfold over mn mx Rt at *
  (repeat' split) <;> omega
theorem inter_nonneg : ∀ (l : List S) (s : S), Cn l → Rt s → 0 ≤ inter l s
  | [], _, _, _ => by simp [inter]
  | x :: l, s, hc, hr => by
    have := over_bounds hc.1 hr
    have := inter_nonneg l s hc.2.2 hr
    simp only [inter]; omega
def Meets (l : List S) (s : S) : Prop := ∃ x ∈ l, x.f0 = s.f0 ∧ x.f1 < s.f2 ∧ s.f1 < x.f2
def Covers (l : List S) (s : S) : Prop := ∃ x ∈ l, x.f0 = s.f0 ∧ x.f1 ≤ s.f1 ∧ s.f2 ≤ x.f2
theorem inter_meets : ∀ (l : List S) (s : S), Cn l → Rt s → (inter l s = 0 ↔ ¬ Meets l s)
  | [], _, _, _ => by simp [inter, Meets]
  | x :: l, s, hc, hr => by
    have ih := inter_meets l s hc.2.2 hr
    have h0 := inter_nonneg l s hc.2.2 hr
    have h1 := over_bounds hc.1 hr
    have hx := hc.1
    have ho : over x s = 0 ↔ ¬ (x.f0 = s.f0 ∧ x.f1 < s.f2 ∧ s.f1 < x.f2) := by
      unfold over mn mx Rt at *
      (repeat' split) <;> omega
    have hm : Meets (x :: l) s ↔ (x.f0 = s.f0 ∧ x.f1 < s.f2 ∧ s.f1 < x.f2) ∨ Meets l s := by simp [Meets]
    rw [hm]
    simp only [inter]
    constructor
    · intro h
      rintro (k | k)
      · exact ho.1 (by omega) k
      · exact ih.1 (by omega) k
    · intro h
      have := ho.2 (fun k => h (.inl k))
      have := ih.2 (fun k => h (.inr k))
      omega
/-- All behind x: what is not before s's end. -/
theorem inter_le : ∀ (l : List S) (s : S) (b : Int), Cn l → Rt s → (∀ x ∈ l, x.f0 = s.f0 → b ≤ x.f1) → b ≤ s.f2 → inter l s ≤ s.f2 - mx b s.f1 ∧ (inter l s = s.f2 - s.f1 → b ≤ s.f1 → Covers l s)
  | [], s, b, _, hr, _, hb => by
    refine ⟨?_, fun h _ => ?_⟩
    · simp only [inter]; unfold mx Rt at *; split <;> omega
    · simp only [inter] at h; unfold Rt at hr; omega
  | x :: l, s, b, hc, hr, hl, hb => by
    have hx := hc.1
    have hlx := hl x (by simp)
    by_cases hm : x.f0 = s.f0 ∧ s.f1 < x.f2 ∧ x.f1 < s.f2
    · by_cases he : x.f2 < s.f2
      · have ih := inter_le l s (x.f2 + 1) hc.2.2 hr (fun y hy e => by
          have := hc.2.1 y hy
          unfold Ah at this; omega) (by omega)
        simp only [inter]
        have ho : over x s = x.f2 - mx x.f1 s.f1 := by
          unfold over mn; rw [if_pos hm, if_neg (by omega)]
        refine ⟨?_, fun h _ => ?_⟩
        · have := ih.1
          unfold mx Rt at *
          (repeat' split at *) <;> omega
        · exfalso
          have := ih.1
          unfold mx Rt at *
          (repeat' split at *) <;> omega
      · have h0 : inter l s = 0 := by
          rw [inter_meets l s hc.2.2 hr]
          rintro ⟨y, hy, h⟩
          have := hc.2.1 y hy
          unfold Ah at this; omega
        simp only [inter, h0]
        have ho : over x s = s.f2 - mx x.f1 s.f1 := by
          unfold over mn; rw [if_pos hm]
          split <;> omega
        refine ⟨?_, fun h _ => ?_⟩
        · unfold mx Rt at *
          (repeat' split at *) <;> omega
        · refine ⟨x, by simp, hm.1, ?_, by omega⟩
          unfold mx at ho
          split at ho <;> omega
    · have ho : over x s = 0 := by unfold over; rw [if_neg hm]
      have ih := inter_le l s b hc.2.2 hr (fun y hy e => hl y (by simp [hy]) e) hb
      simp only [inter, ho]
      refine ⟨by have := ih.1; omega, fun h hb' => ?_⟩
      obtain ⟨y, hy, k⟩ := ih.2 (by omega) hb'
      exact ⟨y, by simp [hy], k⟩
theorem covers_inter : ∀ (l : List S) (s : S), Cn l → Rt s → Covers l s → inter l s = s.f2 - s.f1
  | x :: l, s, hc, hr, h => by
    obtain ⟨y, hy, h⟩ := h
    have hx := hc.1
    simp only [inter]
    rcases List.mem_cons.1 hy with rfl | hy
    · have h0 : inter l s = 0 := by
        rw [inter_meets l s hc.2.2 hr]
        rintro ⟨z, hz, k⟩
        have := hc.2.1 z hz
        unfold Ah at this; omega
      rw [h0]
      unfold over mn mx Rt at *
      (repeat' split) <;> omega
    · have ih := covers_inter l s hc.2.2 hr ⟨y, hy, h⟩
      have := hc.2.1 y hy
      have ho : over x s = 0 := by unfold over; unfold Ah at this; unfold Rt at hr; rw [if_neg (by omega)]
      omega
theorem inter_covers (l : List S) (s : S) (hc : Cn l) (hr : Rt s) : inter l s = s.f2 - s.f1 ↔ Covers l s := by
  refine ⟨fun h => ?_, covers_inter l s hc hr⟩
  have hs := hr
  unfold Rt at hs
  exact (inter_le l s 0 hc hr (fun x hx _ => by have := can_rt hc x hx; unfold Rt at this; omega) (by omega)).2 h (by omega)
theorem size_bound : ∀ (l : List S), Cn l → 0 ≤ size l ∧ size l ≤ 65536 * l.length
  | [], _ => by simp [size]
  | x :: l, hc => by
    have := size_bound l hc.2.2
    have hx := hc.1
    unfold Rt at hx
    simp only [size, List.length_cons]
    omega
end Go.Proofs.Ytmbkbpaoiilicaa.LemSpanPlanL

/- What Within answers: the remainder that is not below nought (group PlanL). -/
set_option linter.unusedVariables false
namespace Go.Proofs.Ytmbkbpaoiilicaa.LemWithinPlanL
open Go.RowKit Go.Proofs.Ytmbkbpaoiilicaa.PPlanL Go.Proofs.YtmbkbpaoiilicaaW.PrintWords Go.Proofs.YtmbkbpaoiilicaaW.PrintLast Go.Proofs.YtmbkbpaoiilicaaW.PrintMore Go.Proofs.Ytmbkbpaoiilicaa.Num

theorem within_eq (x n : Int) (hn : 0 < n) (hn2 : n < 4611686018427387904) : busbarlaw0_Within.f x n = some (x % n) := by
  have h0 := Int.emod_nonneg x (show n ≠ 0 by omega)
  have h1 := Int.emod_lt_of_pos x hn
  have ht := Int.tmod_eq_emod (a := x) (b := n)
  have hna : (n.natAbs : Int) = n := by omega
  unfold busbarlaw0_Within.f
  rw [if_neg (by omega)]
  by_cases hc : 0 ≤ x ∨ n ∣ x
  · rw [if_pos hc] at ht
    rw [if_neg (by omega)]
    congr 1
    omega
  · rw [if_neg hc, hna] at ht
    have hne : x % n ≠ 0 := fun h => hc (.inr (Int.dvd_of_emod_eq_zero h))
    rw [if_pos (by omega), wrap64_id (by omega) (by omega)]
    congr 1
    omega
end Go.Proofs.Ytmbkbpaoiilicaa.LemWithinPlanL

/- What span's functions and the document's answer, as plain lists (group PlanL). -/
set_option linter.unusedVariables false
set_option linter.unusedSimpArgs false
namespace Go.Proofs.Ytmbkbpaoiilicaa.LemSpanFnPlanL
open Go.RowKit Go.Proofs.Ytmbkbpaoiilicaa.PPlanL Go.Proofs.YtmbkbpaoiilicaaW.PrintWords Go.Proofs.YtmbkbpaoiilicaaW.PrintLast Go.Proofs.YtmbkbpaoiilicaaW.PrintMore Go.Proofs.Ytmbkbpaoiilicaa.Num Go.Proofs.Ytmbkbpaoiilicaa.LemSpanPlanL Go.Proofs.Ytmbkbpaoiilicaa.LemWithinPlanL

theorem rdS (pre : List S) (x : S) (rest : List S) : rd_T32 (pre ++ x :: rest) (pre.length : Int) = x := by
  unfold rd_T32
  rw [Int.toNat_natCast, List.getD_eq_getElem?_getD, List.getElem?_append_right (Nat.le_refl _), Nat.sub_self]
  rfl
theorem ahead_eq (x s : S) : span_ahead.f x.f0 x.f1 x.f2 s.f0 s.f1 s.f2 = some (decide (Ah x s)) := by
  unfold span_ahead.f
  by_cases h1 : x.f0 < s.f0
  · rw [if_pos h1, decide_eq_true (show Ah x s from .inl h1)]
  · rw [if_neg h1]
    by_cases h2 : x.f0 = s.f0
    · rw [if_pos h2]
      by_cases h3 : x.f2 < s.f1
      · rw [decide_eq_true h3, decide_eq_true (show Ah x s from .inr ⟨h2, h3⟩)]
      · rw [decide_eq_false h3, decide_eq_false (show ¬ Ah x s by unfold Ah; omega)]
    · rw [if_neg h2, decide_eq_false (show ¬ Ah x s by unfold Ah; omega)]
theorem right_eq (s : S) : span_Right.f s.f0 s.f1 s.f2 = some (decide (Rt s)) := by
  unfold span_Right.f
  by_cases h1 : s.f0 ≥ 0
  · rw [if_pos h1]
    by_cases h2 : s.f0 < 4
    · rw [if_pos h2]
      by_cases h3 : s.f1 ≥ 0
      · rw [if_pos h3]
        by_cases h4 : s.f2 ≤ 65536
        · rw [if_pos h4]
          by_cases h5 : s.f1 < s.f2
          · rw [decide_eq_true h5, decide_eq_true (show Rt s by unfold Rt; omega)]
          · rw [decide_eq_false h5, decide_eq_false (show ¬ Rt s by unfold Rt; omega)]
        · rw [if_neg h4, decide_eq_false (show ¬ Rt s by unfold Rt; omega)]
      · rw [if_neg h3, decide_eq_false (show ¬ Rt s by unfold Rt; omega)]
    · rw [if_neg h2, decide_eq_false (show ¬ Rt s by unfold Rt; omega)]
  · rw [if_neg h1, decide_eq_false (show ¬ Rt s by unfold Rt; omega)]
theorem set_mid (A B : List S) (h s : S) : (A ++ (h :: B)).set A.length s = A ++ s :: B := by
  rw [List.set_append_right _ _ (Nat.le_refl _), Nat.sub_self]; rfl
theorem final_ins (A B : List S) (s : S) (n : Nat) (hn : n = B.length) : (Kd.laid (A ++ B ++ [s]) (A.length + 1) n ((A ++ B ++ [s]).drop A.length)).set A.length s = A ++ s :: B := by
  subst hn
  have h1 : (A ++ B ++ [s]).drop A.length = B ++ [s] := by rw [List.append_assoc, List.drop_left]
  have h2 : (B ++ [s]).take B.length = B := List.take_left
  have h3 : (A ++ B ++ [s]).drop (A.length + 1 + B.length) = [] := List.drop_eq_nil_of_le (by simp; omega)
  unfold Kd.laid
  rw [h1, h2, h3, List.append_nil]
  cases B with
  | nil =>
    rw [List.append_nil, List.take_of_length_le (by simp), List.append_nil]
    exact set_mid A [] s s
  | cons b B =>
    have h4 : (A ++ b :: B ++ [s]).take (A.length + 1) = A ++ [b] := by
      rw [List.append_assoc, List.take_append, List.take_of_length_le (by omega)]
      simp
    rw [h4, List.append_assoc]
    exact set_mid A (b :: B) b s
end Go.Proofs.Ytmbkbpaoiilicaa.LemSpanFnPlanL

/- What span's other functions and the document's answer (group PlanL). -/
set_option linter.unusedVariables false
set_option linter.unusedSimpArgs false
namespace Go.Proofs.Ytmbkbpaoiilicaa.LemSpanFmPlanL
open Go.RowKit Go.Proofs.Ytmbkbpaoiilicaa.PPlanL Go.Proofs.YtmbkbpaoiilicaaW.PrintWords Go.Proofs.YtmbkbpaoiilicaaW.PrintLast Go.Proofs.YtmbkbpaoiilicaaW.PrintMore Go.Proofs.Ytmbkbpaoiilicaa.Num Go.Proofs.Ytmbkbpaoiilicaa.LemSpanPlanL Go.Proofs.Ytmbkbpaoiilicaa.LemWithinPlanL Go.Proofs.Ytmbkbpaoiilicaa.LemSpanFnPlanL


theorem idx (pre rest : List S) (x : S) : ((pre ++ x :: rest).length : Int) = (pre.length : Int) + rest.length + 1 := by rw [List.length_append, List.length_cons]; omega
theorem nxt (pre : List S) (x : S) (h : pre.length ≤ 100000) : wrap64 ((pre.length : Int) + 1) = ((pre ++ [x]).length : Int) := by
  rw [wrap64_id (by omega) (by omega), List.length_append]; rfl
theorem refadd_step (k : Nat) (A B pre rest : List S) (x s : S) (hp : pre.length + rest.length ≤ 100000) (hA : A.length ≤ 100000) (hB : B.length ≤ 100000) (hx : Rt x) (hs : Rt s) :
    busbarref12_Add.l0 (k + 2) (pre ++ x :: rest) A B (pre.length : Int) s.f0 s.f1 s.f2 =
      if Ah x s then busbarref12_Add.l0 k (pre ++ x :: rest) (A ++ [x]) B ((pre ++ [x]).length : Int) s.f0 s.f1 s.f2
      else if Ah s x then busbarref12_Add.l0 k (pre ++ x :: rest) A (B ++ [x]) ((pre ++ [x]).length : Int) s.f0 s.f1 s.f2
      else busbarref12_Add.l0 k (pre ++ x :: rest) A B ((pre ++ [x]).length : Int) (mg s x).f0 (mg s x).f1 (mg s x).f2 := by
  have hl := idx pre rest x
  have hw := nxt pre x (by omega)
  have j1t : busbarref12_Add.j1 (k + 1) (pre ++ x :: rest) A B (pre.length : Int) true s.f0 s.f1 s.f2 x.f0 x.f1 x.f2 = busbarref12_Add.l0 k (pre ++ x :: rest) (A ++ [x]) B ((pre ++ [x]).length : Int) s.f0 s.f1 s.f2 := by
    rw [busbarref12_Add.j1, if_pos rfl, if_pos (by omega), hw]
  have j1f : ¬ Ah x s → busbarref12_Add.j1 (k + 1) (pre ++ x :: rest) A B (pre.length : Int) false s.f0 s.f1 s.f2 x.f0 x.f1 x.f2 = (if Ah s x then busbarref12_Add.l0 k (pre ++ x :: rest) A (B ++ [x]) ((pre ++ [x]).length : Int) s.f0 s.f1 s.f2
      else busbarref12_Add.l0 k (pre ++ x :: rest) A B ((pre ++ [x]).length : Int) (mg s x).f0 (mg s x).f1 (mg s x).f2) := by
    intro hn
    rw [busbarref12_Add.j1, if_neg (by decide), hw]
    by_cases h1 : x.f0 > s.f0
    · rw [if_pos h1, if_pos (by omega), if_pos (show Ah s x from .inl (by omega))]
    · rw [if_neg h1]
      have he : s.f0 = x.f0 := by unfold Ah at hn; omega
      by_cases h2 : x.f1 > s.f2
      · rw [if_pos h2, if_pos (by omega), if_pos (show Ah s x from .inr ⟨he, by omega⟩)]
      · rw [if_neg h2, if_neg (show ¬ Ah s x by unfold Ah; omega)]
        rfl
  rw [busbarref12_Add.l0, if_pos (by omega), if_pos (by omega), rdS]
  by_cases h1 : x.f0 < s.f0
  · rw [if_pos h1, j1t, if_pos (show Ah x s from .inl h1)]
  · rw [if_neg h1]
    by_cases h2 : x.f0 = s.f0
    · rw [if_pos h2]
      by_cases h3 : x.f2 < s.f1
      · rw [decide_eq_true h3, j1t, if_pos (show Ah x s from .inr ⟨h2, h3⟩)]
      · have hn : ¬ Ah x s := by unfold Ah; omega
        rw [decide_eq_false h3, j1f hn, if_neg hn]
    · have hn : ¬ Ah x s := by unfold Ah; omega
      rw [if_neg h2, j1f hn, if_neg hn]
theorem refadd_behind (A : List S) (s : S) (hs : Rt s) : ∀ (rest B pre : List S) (k : Nat), (∀ x ∈ rest, Rt x ∧ Ah s x ∧ ¬ Ah x s) → pre.length + rest.length ≤ 100000 → A.length + B.length + rest.length ≤ 100000 → 2 * rest.length < k →
    busbarref12_Add.l0 k (pre ++ rest) A B (pre.length : Int) s.f0 s.f1 s.f2 = some (A ++ s :: (B ++ rest))
  | [], B, pre, k, _, _, hl, hk => by
    obtain ⟨k, rfl⟩ : ∃ m, k = m + 1 := ⟨k - 1, by omega⟩
    rw [List.append_nil, List.append_nil, busbarref12_Add.l0, if_neg (by omega), if_pos (by omega), Option.bind_some, if_pos (by rw [List.length_append]; simp at hl ⊢; omega), List.append_assoc]
    rfl
  | x :: rest, B, pre, k, hx, hp, hl, hk => by
    rw [List.length_cons] at hp hl hk
    obtain ⟨k, rfl⟩ : ∃ m, k = m + 2 := ⟨k - 2, by omega⟩
    have h := hx x (by simp)
    rw [refadd_step k A B pre rest x s (by omega) (by omega) (by omega) h.1 hs, if_neg h.2.2, if_pos h.2.1]
    have ih := refadd_behind A s hs rest (B ++ [x]) (pre ++ [x]) k (fun y hy => hx y (by simp [hy])) (by simp; omega) (by simp; omega) (by omega)
    rw [List.append_assoc pre, List.append_assoc B] at ih
    exact ih
theorem refadd_loop : ∀ (rest A pre : List S) (s : S) (k : Nat), Cn rest → Rt s → pre.length + rest.length ≤ 100000 → A.length + rest.length ≤ 100000 → 2 * rest.length < k →
    busbarref12_Add.l0 k (pre ++ rest) A [] (pre.length : Int) s.f0 s.f1 s.f2 = some (A ++ add rest s)
  | [], A, pre, s, k, _, hr, hp, hl, hk => by
    have h := refadd_behind A s hr [] [] pre k (by simp) hp (by simpa using hl) hk
    simp only [List.append_nil] at h ⊢
    exact h
  | x :: rest, A, pre, s, k, hc, hr, hp, hl, hk => by
    have hp' := hp
    have hl' := hl
    rw [List.length_cons] at hp hl hk
    by_cases h1 : Ah x s
    · obtain ⟨k, rfl⟩ : ∃ m, k = m + 2 := ⟨k - 2, by omega⟩
      rw [refadd_step k A [] pre rest x s (by omega) (by omega) (by simp) hc.1 hr, if_pos h1]
      have ih := refadd_loop rest (A ++ [x]) (pre ++ [x]) s k hc.2.2 hr (by simp; omega) (by simp; omega) (by omega)
      rw [List.append_assoc pre, List.append_assoc A [x]] at ih
      unfold add
      rw [if_pos h1]
      exact ih
    · by_cases h2 : Ah s x
      · have h := refadd_behind A s hr (x :: rest) [] pre k (fun y hy => by
          rcases List.mem_cons.1 hy with rfl | hy
          · exact ⟨hc.1, h2, h1⟩
          · have := Ah_trans hc.1 h2 (hc.2.1 y hy)
            exact ⟨can_rt hc.2.2 y hy, this, Ah_asym hr (can_rt hc.2.2 y hy) this⟩) hp' (by simpa using hl') (by simp; omega)
        unfold add
        rw [if_neg h1, if_pos h2]
        exact h
      · obtain ⟨k, rfl⟩ : ∃ m, k = m + 2 := ⟨k - 2, by omega⟩
        rw [refadd_step k A [] pre rest x s (by omega) (by omega) (by simp) hc.1 hr, if_neg h1, if_neg h2]
        have ih := refadd_loop rest A (pre ++ [x]) (mg s x) k hc.2.2 (mg_rt hr hc.1 h1 h2) (by simp; omega) (by omega) (by omega)
        rw [List.append_assoc pre] at ih
        unfold add
        rw [if_neg h1, if_neg h2]
        exact ih
theorem refadd_eq (l : List S) (a b c : Int) (hc : Cn l) (hr : Rt ⟨a, b, c⟩) (hl : l.length ≤ 100000) {k : Nat} (hk : 2 * l.length < k) : busbarref12_Add.f k l a b c = some (add l ⟨a, b, c⟩) :=
  refadd_loop l [] [] ⟨a, b, c⟩ k hc hr (by simpa using hl) (by simpa using hl) hk
theorem refadd_s (l : List S) (s : S) (hc : Cn l) (hr : Rt s) (hl : l.length ≤ 100000) {k : Nat} (hk : 2 * l.length < k) : busbarref12_Add.f k l s.f0 s.f1 s.f2 = some (add l s) :=
  refadd_loop l [] [] s k hc hr (by simpa using hl) (by simpa using hl) hk
/-- A right span by a number. -/
def spanOf (n : Int) : S :=
  let d1 := Int.tdiv n 4 % 40; let d2 := Int.tdiv n 160 % 12; let d3 := Int.tdiv n 1920 % 16
  if d3 = 0 then ⟨n % 4, 65496 + d1, mn (65496 + d1 + (1 + d2)) 65536⟩ else if d3 = 1 then ⟨n % 4, d1, mn (d1 + (1 + 100 * d2)) 65536⟩ else ⟨n % 4, d1, mn (d1 + (1 + d2)) 65536⟩
theorem digit_eq (n d m : Int) (hn : -9223372036854775808 ≤ n ∧ n < 9223372036854775808) (hd : 2 ≤ d) (hm : 0 < m) (hm2 : m < 4611686018427387904) : busbarlaw0_Digit.f n d m = some (Int.tdiv n d % m) := by
  unfold busbarlaw0_Digit.f
  have h : -9223372036854775808 ≤ Int.tdiv n d ∧ Int.tdiv n d < 9223372036854775808 := by
    have h3 : (Int.natAbs (Int.tdiv n d)) ≤ Int.natAbs n / 2 := by rw [Int.natAbs_tdiv]; exact Nat.div_le_div_left (by omega) (by omega)
    omega
  rw [if_neg (by omega), wrap64_id h.1 h.2, within_eq _ m hm hm2]
  rfl
theorem span_eq (n : Int) (hn : -9223372036854775808 ≤ n ∧ n < 9223372036854775808) : busbarlaw0_Span.f n = some ((spanOf n).f0, (spanOf n).f1, (spanOf n).f2) := by
  have e1 := Int.emod_nonneg (Int.tdiv n 4) (show (40 : Int) ≠ 0 by omega)
  have e2 := Int.emod_lt_of_pos (Int.tdiv n 4) (show (0 : Int) < 40 by omega)
  have e3 := Int.emod_nonneg (Int.tdiv n 160) (show (12 : Int) ≠ 0 by omega)
  have e4 := Int.emod_lt_of_pos (Int.tdiv n 160) (show (0 : Int) < 12 by omega)
  unfold busbarlaw0_Span.f spanOf
  rw [within_eq n 4 (by omega) (by omega), Option.bind_some, digit_eq n 4 40 hn (by omega) (by omega) (by omega), Option.bind_some, digit_eq n 160 12 hn (by omega) (by omega) (by omega), Option.bind_some, digit_eq n 1920 16 hn (by omega) (by omega) (by omega), Option.bind_some]
  dsimp only
  generalize Int.tdiv n 4 % 40 = d1 at *
  generalize Int.tdiv n 160 % 12 = d2 at *
  generalize Int.tdiv n 1920 % 16 = d3 at *
  by_cases h0 : d3 = 0
  · rw [if_pos h0, if_pos h0, wrap64_id (x := 65496 + d1) (by omega) (by omega), wrap64_id (x := 1 + d2) (by omega) (by omega), wrap64_id (by omega) (by omega)]
  · rw [if_neg h0, if_neg h0]
    by_cases h1 : d3 = 1
    · rw [if_pos h1, if_pos h1, Option.bind_some, wrap64_id (x := 100 * d2) (by omega) (by omega), wrap64_id (x := 1 + 100 * d2) (by omega) (by omega), wrap64_id (by omega) (by omega)]
    · rw [if_neg h1, if_neg h1, wrap64_id (x := 1 + d2) (by omega) (by omega), wrap64_id (by omega) (by omega)]
theorem span_rt (n : Int) : Rt (spanOf n) := by
  have e1 := Int.emod_nonneg (Int.tdiv n 4) (show (40 : Int) ≠ 0 by omega)
  have e2 := Int.emod_lt_of_pos (Int.tdiv n 4) (show (0 : Int) < 40 by omega)
  have e3 := Int.emod_nonneg (Int.tdiv n 160) (show (12 : Int) ≠ 0 by omega)
  have e4 := Int.emod_lt_of_pos (Int.tdiv n 160) (show (0 : Int) < 12 by omega)
  unfold spanOf
  dsimp only
  generalize Int.tdiv n 4 % 40 = d1 at *
  generalize Int.tdiv n 160 % 12 = d2 at *
  generalize Int.tdiv n 1920 % 16 = d3 at *
  unfold Rt mn
  (repeat' split) <;> dsimp only <;> (repeat' split) <;> omega
theorem span_i64 (n : Int) : -9223372036854775808 ≤ (spanOf n).f1 ∧ (spanOf n).f2 ≤ 65536 := by
  have := span_rt n; unfold Rt at this; omega
/-- A canonical list by numbers: of the first twenty. -/
def spansOf (ks : List Int) : List S := (ks.take 20).foldl (fun l k => add l (spanOf k)) []
theorem foldl_can : ∀ (ks : List Int) (l : List S), Cn l → Cn (ks.foldl (fun l k => add l (spanOf k)) l)
  | [], _, h => h
  | k :: ks, l, h => foldl_can ks _ (add_can l _ h (span_rt k))
theorem foldl_len : ∀ (ks : List Int) (l : List S), (ks.foldl (fun l k => add l (spanOf k)) l).length ≤ l.length + ks.length
  | [], l => by simp
  | k :: ks, l => by
    have h1 := foldl_len ks (add l (spanOf k))
    have h2 := add_length l (spanOf k)
    simp only [List.foldl_cons, List.length_cons]; omega
theorem spans_can (ks : List Int) : Cn (spansOf ks) := foldl_can _ _ trivial
theorem spans_len (ks : List Int) : (spansOf ks).length ≤ 20 := by
  have := foldl_len (ks.take 20) []
  unfold spansOf
  simp at this ⊢; omega
theorem spans_loop (ks : List Int) (hk : ∀ x ∈ ks, -9223372036854775808 ≤ x ∧ x < 9223372036854775808) (hlen : ks.length ≤ 9223372036854775807) : ∀ (d i k : Nat) (l : List S), i + d = min ks.length 20 → Cn l → l.length ≤ i → 2 * d + 50 ≤ k →
    busbarlaw0_Spans.l0 k ks l (i : Int) = some (((ks.take 20).drop i).foldl (fun l k => add l (spanOf k)) l)
  | 0, i, k, l, hi, hc, hl, hk' => by
    obtain ⟨k, rfl⟩ : ∃ m, k = m + 2 := ⟨k - 2, by omega⟩
    have hd : (ks.take 20).drop i = [] := List.drop_eq_nil_of_le (by rw [List.length_take]; omega)
    rw [hd, busbarlaw0_Spans.l0]
    by_cases h : (i : Int) < (ks.length : Int)
    · rw [if_pos h, decide_eq_false (by omega), busbarlaw0_Spans.j1, if_neg (by decide)]
      rfl
    · rw [if_neg h, busbarlaw0_Spans.j1, if_neg (by decide)]
      rfl
  | d + 1, i, k, l, hi, hc, hl, hk' => by
    obtain ⟨k, rfl⟩ : ∃ m, k = m + 2 := ⟨k - 2, by omega⟩
    have hil : i < ks.length := by omega
    have hd : (ks.take 20).drop i = ks[i] :: (ks.take 20).drop (i + 1) := by
      rw [List.drop_eq_getElem_cons (by rw [List.length_take]; omega), List.getElem_take]
    have hx := hk ks[i] (List.getElem_mem _)
    rw [hd, busbarlaw0_Spans.l0, if_pos (by omega), decide_eq_true (by omega), busbarlaw0_Spans.j1, if_pos rfl, if_pos (by omega), if_pos (by omega), rd_get ks i hil, span_eq _ hx, Option.bind_some, refadd_s l (spanOf ks[i]) hc (span_rt _) (by omega) (by omega), Option.bind_some, wrap64_id (by omega) (by omega), show ((i : Int) + 1) = ((i + 1 : Nat) : Int) by omega]
    exact spans_loop ks hk hlen d (i + 1) k (add l (spanOf ks[i])) (by omega) (add_can l _ hc (span_rt _)) (by have := add_length l (spanOf ks[i]); omega) (by omega)
theorem spans_eq (ks : List Int) (hk : ∀ x ∈ ks, -9223372036854775808 ≤ x ∧ x < 9223372036854775808) (hlen : ks.length ≤ 9223372036854775807) {k : Nat} (h : 90 ≤ k) : busbarlaw0_Spans.f k ks = some (spansOf ks) :=
  spans_loop ks hk hlen (min ks.length 20) 0 k [] (by omega) trivial (by simp) (by omega)
end Go.Proofs.Ytmbkbpaoiilicaa.LemSpanFmPlanL

/- What is asked of rows, taken away from them, and held against them (group PlanL). -/
set_option linter.unusedVariables false
set_option linter.unusedSimpArgs false
namespace Go.Proofs.Ytmbkbpaoiilicaa.LemSpanFoPlanL
open Go.RowKit Go.Proofs.Ytmbkbpaoiilicaa.PPlanL Go.Proofs.YtmbkbpaoiilicaaW.PrintWords Go.Proofs.YtmbkbpaoiilicaaW.PrintLast Go.Proofs.YtmbkbpaoiilicaaW.PrintMore Go.Proofs.Ytmbkbpaoiilicaa.Num Go.Proofs.Ytmbkbpaoiilicaa.LemSpanPlanL Go.Proofs.Ytmbkbpaoiilicaa.LemWithinPlanL Go.Proofs.Ytmbkbpaoiilicaa.LemSpanFnPlanL Go.Proofs.Ytmbkbpaoiilicaa.LemSpanFmPlanL

instance (l : List S) (t p : Int) : Decidable (Has l t p) := by unfold Has; infer_instance
instance (l : List S) (s : S) : Decidable (Meets l s) := by unfold Meets; infer_instance
instance (l : List S) (s : S) : Decidable (Covers l s) := by unfold Covers; infer_instance
theorem pos (pre rest : List S) (x : S) : (pre.length : Int) < ((pre ++ x :: rest).length : Int) := by rw [idx]; omega
theorem both_same (x s : S) (h : x.f0 = s.f0) : span_both.f x.f0 x.f1 x.f2 s.f0 s.f1 s.f2 = some (x.f0, mx x.f1 s.f1, mn x.f2 s.f2) := by unfold span_both.f; rw [if_pos h]
theorem both_other (x s : S) (h : x.f0 ≠ s.f0) : span_both.f x.f0 x.f1 x.f2 s.f0 s.f1 s.f2 = some (0, 0, 0) := by unfold span_both.f; rw [if_neg h]
theorem right3 (a b c : Int) : span_Right.f a b c = some (decide (Rt ⟨a, b, c⟩)) := right_eq ⟨a, b, c⟩
theorem covers_loop (s : S) (hs : Rt s) : ∀ (rest pre : List S) (k : Nat), pre.length + rest.length ≤ 100000 → rest.length < k → span_Covers.l0 k (pre ++ rest) ((pre ++ rest).length : Int) (pre.length : Int) s.f0 s.f1 s.f2 = some (decide (Covers rest s))
  | [], pre, k, hp, hk => by
    obtain ⟨k, rfl⟩ : ∃ m, k = m + 1 := ⟨k - 1, by omega⟩
    rw [List.append_nil, span_Covers.l0, if_neg (by omega), decide_eq_false (by simp [Covers])]
  | x :: rest, pre, k, hp, hk => by
    rw [List.length_cons] at hp hk
    obtain ⟨k, rfl⟩ : ∃ m, k = m + 1 := ⟨k - 1, by omega⟩
    have ih := covers_loop s hs rest (pre ++ [x]) k (by simp; omega) (by omega)
    rw [List.append_assoc pre] at ih
    have hc : Covers (x :: rest) s ↔ (x.f0 = s.f0 ∧ x.f1 ≤ s.f1 ∧ s.f2 ≤ x.f2) ∨ Covers rest s := by simp [Covers]
    have hn : ¬ (x.f0 = s.f0 ∧ x.f1 ≤ s.f1 ∧ s.f2 ≤ x.f2) → span_Covers.l0 k (pre ++ x :: rest) ((pre ++ x :: rest).length : Int) (wrap64 ((pre.length : Int) + 1)) s.f0 s.f1 s.f2 = some (decide (Covers (x :: rest) s)) := by
      intro h
      rw [nxt pre x (by omega)]
      refine Eq.trans ih ?_
      congr 1
      rw [decide_eq_decide, hc]
      exact ⟨.inr, fun k => k.resolve_left h⟩
    rw [span_Covers.l0, if_pos (pos pre rest x), if_pos (by omega), if_pos (pos pre rest x), rdS]
    unfold Rt at hs
    by_cases h1 : x.f0 = s.f0
    · rw [both_same x s h1, Option.bind_some]
      by_cases h2 : x.f1 ≤ s.f1 ∧ s.f2 ≤ x.f2
      · have e : (x.f0 == s.f0 && (mx x.f1 s.f1 == s.f1 && mn x.f2 s.f2 == s.f2)) = true := by
          simp only [Bool.and_eq_true, beq_iff_eq]
          unfold mx mn
          refine ⟨h1, ?_, ?_⟩
          · split <;> omega
          · split <;> omega
        rw [if_pos e, decide_eq_true (hc.2 (.inl ⟨h1, h2⟩))]
      · have e : ¬ (x.f0 == s.f0 && (mx x.f1 s.f1 == s.f1 && mn x.f2 s.f2 == s.f2)) = true := by
          simp only [Bool.and_eq_true, beq_iff_eq]
          unfold mx mn
          rintro ⟨_, a, b⟩
          refine h2 ⟨?_, ?_⟩
          · split at a <;> omega
          · split at b <;> omega
        rw [if_neg e, hn (fun h => h2 h.2)]
    · rw [both_other x s h1, Option.bind_some]
      have e : ¬ (((0 : Int) == s.f0) && (((0 : Int) == s.f1) && ((0 : Int) == s.f2))) = true := by
        simp only [Bool.and_eq_true, beq_iff_eq]; omega
      rw [if_neg e, hn (fun h => h1 h.1)]
theorem covers_eq (l : List S) (s : S) (hs : Rt s) (hl : l.length ≤ 100000) {k : Nat} (hk : l.length < k) : span_Covers.f k l s.f0 s.f1 s.f2 = some (decide (Covers l s)) := covers_loop s hs l [] k (by simpa using hl) hk
theorem both_right (x s : S) (hx : Rt x) (hs : Rt s) (h : x.f0 = s.f0) : Rt ⟨x.f0, mx x.f1 s.f1, mn x.f2 s.f2⟩ ↔ x.f1 < s.f2 ∧ s.f1 < x.f2 := by
  unfold Rt mx mn at *
  dsimp only
  (repeat' split) <;> omega
theorem meets_loop (s : S) (hs : Rt s) : ∀ (rest pre : List S) (k : Nat), Cn rest → pre.length + rest.length ≤ 100000 → rest.length < k → span_Meets.l0 k (pre ++ rest) ((pre ++ rest).length : Int) (pre.length : Int) s.f0 s.f1 s.f2 = some (decide (Meets rest s))
  | [], pre, k, _, hp, hk => by
    obtain ⟨k, rfl⟩ : ∃ m, k = m + 1 := ⟨k - 1, by omega⟩
    rw [List.append_nil, span_Meets.l0, if_neg (by omega), decide_eq_false (by simp [Meets])]
  | x :: rest, pre, k, hcn, hp, hk => by
    rw [List.length_cons] at hp hk
    obtain ⟨k, rfl⟩ : ∃ m, k = m + 1 := ⟨k - 1, by omega⟩
    have ih := meets_loop s hs rest (pre ++ [x]) k hcn.2.2 (by simp; omega) (by omega)
    rw [List.append_assoc pre] at ih
    have hc : Meets (x :: rest) s ↔ (x.f0 = s.f0 ∧ x.f1 < s.f2 ∧ s.f1 < x.f2) ∨ Meets rest s := by simp [Meets]
    have hn : ¬ (x.f0 = s.f0 ∧ x.f1 < s.f2 ∧ s.f1 < x.f2) → span_Meets.l0 k (pre ++ x :: rest) ((pre ++ x :: rest).length : Int) (wrap64 ((pre.length : Int) + 1)) s.f0 s.f1 s.f2 = some (decide (Meets (x :: rest) s)) := by
      intro h
      rw [nxt pre x (by omega)]
      refine Eq.trans ih ?_
      congr 1
      rw [decide_eq_decide, hc]
      exact ⟨.inr, fun k => k.resolve_left h⟩
    rw [span_Meets.l0, if_pos (pos pre rest x), if_pos (by omega), if_pos (pos pre rest x), rdS]
    by_cases h1 : x.f0 = s.f0
    · rw [both_same x s h1, Option.bind_some, right3, Option.bind_some]
      by_cases h2 : x.f1 < s.f2 ∧ s.f1 < x.f2
      · rw [decide_eq_true ((both_right x s hcn.1 hs h1).2 h2), if_pos rfl, decide_eq_true (hc.2 (.inl ⟨h1, h2⟩))]
      · rw [decide_eq_false (fun h => h2 ((both_right x s hcn.1 hs h1).1 h)), if_neg (by decide), hn (fun h => h2 h.2)]
    · rw [both_other x s h1, Option.bind_some, right3, Option.bind_some, decide_eq_false (show ¬ Rt ⟨0, 0, 0⟩ by unfold Rt; simp), if_neg (by decide), hn (fun h => h1 h.1)]
theorem meets_eq (l : List S) (s : S) (hc : Cn l) (hs : Rt s) (hl : l.length ≤ 100000) {k : Nat} (hk : l.length < k) : span_Meets.f k l s.f0 s.f1 s.f2 = some (decide (Meets l s)) := meets_loop s hs l [] k hc (by simpa using hl) hk
theorem both_meet (x s : S) (hx : Rt x) (hs : Rt s) : (x.f0 = s.f0 ∧ s.f1 < x.f2 ∧ x.f1 < s.f2) ↔ (x.f0 = s.f0 ∧ x.f1 < s.f2 ∧ s.f1 < x.f2) := by omega
end Go.Proofs.Ytmbkbpaoiilicaa.LemSpanFoPlanL

/- What the document asks of rows (group PlanL). -/
set_option linter.unusedVariables false
set_option linter.unusedSimpArgs false
namespace Go.Proofs.Ytmbkbpaoiilicaa.LemSpanFqPlanL
open Go.RowKit Go.Proofs.Ytmbkbpaoiilicaa.PPlanL Go.Proofs.YtmbkbpaoiilicaaW.PrintWords Go.Proofs.YtmbkbpaoiilicaaW.PrintLast Go.Proofs.YtmbkbpaoiilicaaW.PrintMore Go.Proofs.Ytmbkbpaoiilicaa.Num Go.Proofs.Ytmbkbpaoiilicaa.LemSpanPlanL Go.Proofs.Ytmbkbpaoiilicaa.LemWithinPlanL Go.Proofs.Ytmbkbpaoiilicaa.LemSpanFnPlanL Go.Proofs.Ytmbkbpaoiilicaa.LemSpanFmPlanL Go.Proofs.Ytmbkbpaoiilicaa.LemSpanFoPlanL

theorem refmeets_loop (s : S) : ∀ (rest pre : List S) (k : Nat), pre.length + rest.length ≤ 100000 → rest.length < k → busbarref12_Meets.l0 k (pre ++ rest) (pre.length : Int) s.f0 s.f1 s.f2 = some (decide (Meets rest s))
  | [], pre, k, hp, hk => by
    obtain ⟨k, rfl⟩ : ∃ m, k = m + 1 := ⟨k - 1, by omega⟩
    rw [List.append_nil, busbarref12_Meets.l0, if_neg (by omega), decide_eq_false (by simp [Meets])]
  | x :: rest, pre, k, hp, hk => by
    rw [List.length_cons] at hp hk
    obtain ⟨k, rfl⟩ : ∃ m, k = m + 1 := ⟨k - 1, by omega⟩
    have ih := refmeets_loop s rest (pre ++ [x]) k (by simp; omega) (by omega)
    rw [List.append_assoc pre] at ih
    have hc : Meets (x :: rest) s ↔ (x.f0 = s.f0 ∧ x.f1 < s.f2 ∧ s.f1 < x.f2) ∨ Meets rest s := by simp [Meets]
    have hn : ¬ (x.f0 = s.f0 ∧ x.f1 < s.f2 ∧ s.f1 < x.f2) → busbarref12_Meets.l0 k (pre ++ x :: rest) (wrap64 ((pre.length : Int) + 1)) s.f0 s.f1 s.f2 = some (decide (Meets (x :: rest) s)) := by
      intro h
      rw [nxt pre x (by omega)]
      refine Eq.trans ih ?_
      congr 1
      rw [decide_eq_decide, hc]
      exact ⟨.inr, fun k => k.resolve_left h⟩
    rw [busbarref12_Meets.l0, if_pos (pos pre rest x), if_pos (by omega), rdS]
    by_cases h1 : x.f0 = s.f0
    · rw [if_pos h1]
      by_cases h2 : x.f1 < s.f2
      · rw [if_pos h2]
        by_cases h3 : s.f1 < x.f2
        · rw [if_pos h3, decide_eq_true (hc.2 (.inl ⟨h1, h2, h3⟩))]
        · rw [if_neg h3, hn (fun h => h3 h.2.2)]
      · rw [if_neg h2, hn (fun h => h2 h.2.1)]
    · rw [if_neg h1, hn (fun h => h1 h.1)]
theorem refmeets_eq (l : List S) (s : S) (hl : l.length ≤ 100000) {k : Nat} (hk : l.length < k) : busbarref12_Meets.f k l s.f0 s.f1 s.f2 = some (decide (Meets l s)) := refmeets_loop s l [] k (by simpa using hl) hk
end Go.Proofs.Ytmbkbpaoiilicaa.LemSpanFqPlanL

/- What LentSpans and StaysSpans answer (group PlanL). -/
set_option linter.unusedVariables false
set_option linter.unusedSimpArgs false
namespace Go.Proofs.Ytmbkbpaoiilicaa.LemLentSPlanL
open Go.RowKit Go.Proofs.Ytmbkbpaoiilicaa.PPlanL Go.Proofs.YtmbkbpaoiilicaaW.PrintWords Go.Proofs.YtmbkbpaoiilicaaW.PrintLast Go.Proofs.YtmbkbpaoiilicaaW.PrintMore Go.Proofs.Ytmbkbpaoiilicaa.Num

abbrev M7 : S32 := ⟨7, 7, 7⟩
theorem laid0 {α : Type} (z : α) (l : List α) : Kd.laid (List.replicate (l.length + 3) z) 0 (min l.length (List.replicate (l.length + 3) z).length) l = l ++ [z, z, z] := by
  unfold Kd.laid
  rw [List.length_replicate, Nat.min_eq_left (by omega), List.take_length, Nat.zero_add, List.drop_replicate, Nat.add_sub_cancel_left]
  rfl
theorem marks_eq : Kd.marks k32 = [M7, M7, M7] := rfl
theorem set_mk {α : Type} (l : List α) (a b c m : α) : (l ++ [a, b, c]).set l.length m = l ++ [m, b, c] ∧ (l ++ [a, b, c]).set (l.length + 1) m = l ++ [a, m, c] ∧ (l ++ [a, b, c]).set (l.length + 2) m = l ++ [a, b, m] := by
  refine ⟨?_, ?_, ?_⟩
  · rw [List.set_append_right _ _ (Nat.le_refl _), Nat.sub_self]; rfl
  · rw [List.set_append_right _ _ (by omega), Nat.add_sub_cancel_left]; rfl
  · rw [List.set_append_right _ _ (by omega), Nat.add_sub_cancel_left]; rfl
theorem lent_round (l x : List S32) (k i : Nat) (hl : l.length ≤ 100000) (hi : i < x.length) (hi2 : i ≤ 200000) : busbarlaw0_LentSpans.l0 (k + 1) l x (i : Int) = busbarlaw0_LentSpans.l0 k l (x.set i M7) ((i + 1 : Nat) : Int) := by
  rw [busbarlaw0_LentSpans.l0, if_pos (by omega), if_pos (by omega), Int.toNat_natCast, wrap64_id (by omega) (by omega)]
  rfl
theorem lent_eq (l : List S32) (hl : l.length ≤ 100000) {k : Nat} (hk : 5 ≤ k) : busbarlaw0_LentSpans.f k l = some l := by
  obtain ⟨k, rfl⟩ : ∃ m, k = m + 4 := ⟨k - 4, by omega⟩
  unfold busbarlaw0_LentSpans.f
  have e : ((wrap64 ((l.length : Int) + 3)) : Int).toNat = l.length + 3 := by rw [wrap64_id (by omega) (by omega)]; omega
  have hlen : ∀ a b c : S32, (l ++ [a, b, c]).length = l.length + 3 := fun _ _ _ => by simp
  rw [if_pos (by rw [wrap64_id (by omega) (by omega)]; omega), e, if_pos (by omega), Option.bind_some, if_pos (by simp), laid0,
    lent_round l _ (k + 3) l.length hl (by rw [hlen]; omega) (by omega), (set_mk l _ _ _ _).1,
    lent_round l _ (k + 2) (l.length + 1) hl (by rw [hlen]; omega) (by omega), (set_mk l _ _ _ _).2.1,
    lent_round l _ (k + 1) (l.length + 1 + 1) hl (by rw [hlen]; omega) (by omega), (set_mk l _ _ _ _).2.2,
    busbarlaw0_LentSpans.l0, if_neg (by rw [hlen]; omega), if_pos (by omega), if_pos (by rw [hlen]; omega), Int.toNat_natCast, List.drop_left, if_pos marks_eq.symm, List.take_left]
theorem rd_left (l m : List S32) (i : Nat) (h : i < l.length) : rd_T32 (l ++ m) (i : Int) = rd_T32 l (i : Int) := by
  unfold rd_T32
  rw [List.getD_eq_getElem?_getD, List.getD_eq_getElem?_getD, Int.toNat_natCast, List.getElem?_append_left h]
theorem rd_marks (l : List S32) (i : Nat) (h : l.length ≤ i) (h2 : i < l.length + 3) : rd_T32 (l ++ Kd.marks k32) (i : Int) = M7 := by
  obtain ⟨j, rfl⟩ : ∃ j, i = l.length + j := ⟨i - l.length, by omega⟩
  unfold rd_T32
  rw [Int.toNat_natCast, List.getD_eq_getElem?_getD, List.getElem?_append_right h, Nat.add_sub_cancel_left, marks_eq]
  obtain rfl | rfl | rfl : j = 0 ∨ j = 1 ∨ j = 2 := by omega
  all_goals rfl
theorem stays_loop (l : List S32) (hl : l.length ≤ 100000) : ∀ (d i k : Nat), i + d = l.length + 3 → d < k → busbarlaw0_StaysSpans.l0 k l (l ++ Kd.marks k32) (i : Int) = some true
  | 0, i, k, h, hk => by
    obtain ⟨k, rfl⟩ : ∃ m, k = m + 1 := ⟨k - 1, by omega⟩
    rw [busbarlaw0_StaysSpans.l0, if_neg (by rw [List.length_append, marks_eq]; simp; omega)]
  | d + 1, i, k, h, hk => by
    obtain ⟨k, rfl⟩ : ∃ m, k = m + 1 := ⟨k - 1, by omega⟩
    have ih := stays_loop l hl d (i + 1) k (by omega) (by omega)
    have hw : wrap64 ((i : Int) + 1) = ((i + 1 : Nat) : Int) := by rw [wrap64_id (by omega) (by omega)]; rfl
    rw [busbarlaw0_StaysSpans.l0, if_pos (by rw [List.length_append, marks_eq]; simp; omega), hw, ih]
    by_cases hi : i < l.length
    · rw [if_pos (by omega), if_pos (by omega), rd_left l _ i hi, if_neg (by simp), if_neg (by omega)]
    · rw [if_neg (by omega), if_pos (by omega), if_pos (by omega), rd_marks l i (by omega) (by omega), if_neg (by simp)]
theorem stays_eq (l : List S32) (hl : l.length ≤ 100000) {k : Nat} (hk : l.length + 4 ≤ k) : busbarlaw0_StaysSpans.f k l l = some true := by
  unfold busbarlaw0_StaysSpans.f
  have e : (l ++ Kd.marks k32).length = l.length + 3 := by rw [List.length_append, marks_eq]; rfl
  rw [if_pos rfl, if_pos (by rw [wrap64_id (by omega) (by omega)]; omega), if_pos (by rw [wrap64_id (by omega) (by omega), e]; omega)]
  exact stays_loop l hl (l.length + 3) 0 k (by omega) (by omega)
end Go.Proofs.Ytmbkbpaoiilicaa.LemLentSPlanL

/- Whether any list stands as it may only stand: the program and the document say the same (group PlanL). -/
set_option linter.unusedVariables false
set_option linter.unusedSimpArgs false
namespace Go.Proofs.Ytmbkbpaoiilicaa.LemCanonPlanL
open Go.RowKit Go.Proofs.Ytmbkbpaoiilicaa.PPlanL Go.Proofs.YtmbkbpaoiilicaaW.PrintWords Go.Proofs.YtmbkbpaoiilicaaW.PrintLast Go.Proofs.YtmbkbpaoiilicaaW.PrintMore Go.Proofs.Ytmbkbpaoiilicaa.Num Go.Proofs.Ytmbkbpaoiilicaa.LemSpanPlanL Go.Proofs.Ytmbkbpaoiilicaa.LemSpanFnPlanL


theorem refright_eq (s : S) : busbarref12_Right.f s.f0 s.f1 s.f2 = some (decide (Rt s)) := by
  unfold busbarref12_Right.f
  by_cases h1 : s.f0 ≥ 0
  · rw [if_pos h1]
    by_cases h2 : s.f0 ≤ 3
    · rw [if_pos h2]
      by_cases h3 : s.f1 ≥ 0
      · rw [if_pos h3]
        by_cases h4 : s.f2 ≤ 65536
        · rw [if_pos h4]
          by_cases h5 : s.f1 < s.f2
          · rw [decide_eq_true h5, decide_eq_true (show Rt s by unfold Rt; omega)]
          · rw [decide_eq_false h5, decide_eq_false (show ¬ Rt s by unfold Rt; omega)]
        · rw [if_neg h4, decide_eq_false (show ¬ Rt s by unfold Rt; omega)]
      · rw [if_neg h3, decide_eq_false (show ¬ Rt s by unfold Rt; omega)]
    · rw [if_neg h2, decide_eq_false (show ¬ Rt s by unfold Rt; omega)]
  · rw [if_neg h1, decide_eq_false (show ¬ Rt s by unfold Rt; omega)]
/-- What is still to be looked at, from i on. -/
def rest (l : List S) : Nat → Nat → Bool
  | 0, _ => true
  | d + 1, i => decide (Rt (rd_T32 l (i : Int))) && (decide (i = 0) || decide (Ah (rd_T32 l ((i : Int) - 1)) (rd_T32 l (i : Int)))) && rest l d (i + 1)
theorem canon_any (l : List S) (hl : l.length ≤ 100000) : ∀ (d i k : Nat), i + d = l.length → d < k → span_Canon.l0 k l l (l.length : Int) (i : Int) = some (rest l d i)
  | 0, i, k, h, hk => by
    obtain ⟨k, rfl⟩ : ∃ m, k = m + 1 := ⟨k - 1, by omega⟩
    rw [span_Canon.l0, if_neg (by omega)]
    rfl
  | d + 1, i, k, h, hk => by
    obtain ⟨k, rfl⟩ : ∃ m, k = m + 1 := ⟨k - 1, by omega⟩
    have ih := canon_any l hl d (i + 1) k (by omega) (by omega)
    have hw : wrap64 ((i : Int) + 1) = ((i + 1 : Nat) : Int) := by rw [wrap64_id (by omega) (by omega)]; rfl
    rw [span_Canon.l0, if_pos (by omega), if_pos (by omega), if_pos (by omega), right_eq, Option.bind_some, hw, ih]
    rw [show rest l (d + 1) i = (decide (Rt (rd_T32 l (i : Int))) && (decide (i = 0) || decide (Ah (rd_T32 l ((i : Int) - 1)) (rd_T32 l (i : Int)))) && rest l d (i + 1)) from rfl]
    by_cases hr : Rt (rd_T32 l (i : Int))
    · rw [decide_eq_true hr, if_pos rfl]
      by_cases h0 : i = 0
      · rw [if_neg (by omega), decide_eq_true h0]
        simp
      · rw [if_pos (by omega), wrap64_id (by omega) (by omega), if_pos (by omega), if_pos (by omega), ahead_eq, Option.bind_some, decide_eq_false h0]
        by_cases ha : Ah (rd_T32 l ((i : Int) - 1)) (rd_T32 l (i : Int))
        · rw [decide_eq_true ha, if_pos rfl]; simp
        · rw [decide_eq_false ha, if_neg (by decide)]; simp
    · rw [decide_eq_false hr, if_neg (by decide)]
      simp
theorem refcanon_any (l : List S) (hl : l.length ≤ 100000) : ∀ (d i k : Nat), i + d = l.length → d < k → busbarref12_Canon.l0 k l (i : Int) = some (rest l d i)
  | 0, i, k, h, hk => by
    obtain ⟨k, rfl⟩ : ∃ m, k = m + 1 := ⟨k - 1, by omega⟩
    rw [busbarref12_Canon.l0, if_neg (by omega)]
    rfl
  | d + 1, i, k, h, hk => by
    obtain ⟨k, rfl⟩ : ∃ m, k = m + 1 := ⟨k - 1, by omega⟩
    have ih := refcanon_any l hl d (i + 1) k (by omega) (by omega)
    have hw : wrap64 ((i : Int) + 1) = ((i + 1 : Nat) : Int) := by rw [wrap64_id (by omega) (by omega)]; rfl
    rw [busbarref12_Canon.l0, if_pos (by omega), if_pos (by omega), refright_eq, Option.bind_some, hw, ih]
    rw [show rest l (d + 1) i = (decide (Rt (rd_T32 l (i : Int))) && (decide (i = 0) || decide (Ah (rd_T32 l ((i : Int) - 1)) (rd_T32 l (i : Int)))) && rest l d (i + 1)) from rfl]
    by_cases hr : Rt (rd_T32 l (i : Int))
    · rw [decide_eq_true hr, if_pos rfl]
      by_cases h0 : i = 0
      · rw [if_neg (by omega), decide_eq_true h0]
        simp
      · rw [if_pos (by omega), wrap64_id (x := (i : Int) - 1) (by omega) (by omega), if_pos (by omega), if_pos (by omega), decide_eq_false h0]
        by_cases ha : Ah (rd_T32 l ((i : Int) - 1)) (rd_T32 l (i : Int))
        · rw [decide_eq_true ha]
          unfold Ah at ha
          rw [if_neg (by omega)]
          by_cases he : (rd_T32 l ((i : Int) - 1)).f0 = (rd_T32 l (i : Int)).f0
          · rw [if_pos he, if_neg (by omega)]; simp
          · rw [if_neg he]; simp
        · rw [decide_eq_false ha]
          unfold Ah at ha
          by_cases hg : (rd_T32 l ((i : Int) - 1)).f0 > (rd_T32 l (i : Int)).f0
          · rw [if_pos hg]; simp
          · rw [if_neg hg, if_pos (by omega), if_pos (by omega)]; simp
    · rw [decide_eq_false hr, if_neg (by decide)]
      simp
theorem canon_f (l : List S) (hl : l.length ≤ 100000) {k : Nat} (hk : l.length < k) : span_Canon.f k l = some (rest l l.length 0) := canon_any l hl l.length 0 k (by omega) hk
theorem refcanon_f (l : List S) (hl : l.length ≤ 100000) {k : Nat} (hk : l.length < k) : busbarref12_Canon.f k l = some (rest l l.length 0) := refcanon_any l hl l.length 0 k (by omega) hk
end Go.Proofs.Ytmbkbpaoiilicaa.LemCanonPlanL

/- What is amiss with any map and window: the program and the document say the same (group PlanL). -/
set_option linter.unusedVariables false
set_option linter.unusedSimpArgs false
namespace Go.Proofs.Ytmbkbpaoiilicaa.LemCheckPlanL
open Go.RowKit Go.Proofs.Ytmbkbpaoiilicaa.PPlanL Go.Proofs.YtmbkbpaoiilicaaW.PrintWords Go.Proofs.YtmbkbpaoiilicaaW.PrintLast Go.Proofs.YtmbkbpaoiilicaaW.PrintMore Go.Proofs.Ytmbkbpaoiilicaa.Num Go.Proofs.Ytmbkbpaoiilicaa.LemSpanPlanL Go.Proofs.Ytmbkbpaoiilicaa.LemSpanFnPlanL Go.Proofs.Ytmbkbpaoiilicaa.LemSpanFmPlanL Go.Proofs.Ytmbkbpaoiilicaa.LemSpanFoPlanL Go.Proofs.Ytmbkbpaoiilicaa.LemSpanFqPlanL Go.Proofs.Ytmbkbpaoiilicaa.LemCanonPlanL

theorem rest_all (l : List S) : ∀ (d i : Nat), rest l d i = true → ∀ j, i ≤ j → j < i + d → Rt (rd_T32 l (j : Int)) ∧ (j = 0 ∨ Ah (rd_T32 l ((j : Int) - 1)) (rd_T32 l (j : Int)))
  | 0, i, _, j, h1, h2 => absurd h2 (by omega)
  | d + 1, i, h, j, h1, h2 => by
    unfold rest at h
    simp only [Bool.and_eq_true, Bool.or_eq_true, decide_eq_true_eq] at h
    rcases Nat.lt_or_ge i j with h3 | h3
    · exact rest_all l d (i + 1) h.2 j (by omega) (by omega)
    · obtain rfl : j = i := by omega
      exact h.1
theorem rd_get (l : List S) (i : Nat) (h : i < l.length) : rd_T32 l (i : Int) = l[i] := by
  unfold rd_T32
  rw [Int.toNat_natCast, List.getD_eq_getElem?_getD, List.getElem?_eq_getElem h]
  rfl
theorem can_of : ∀ (l : List S), (∀ i (h : i < l.length), Rt l[i]) → (∀ i (h : i + 1 < l.length), Ah l[i] l[i + 1]) → Cn l
  | [], _, _ => trivial
  | x :: l, h1, h2 => by
    have hc := can_of l (fun i h => h1 (i + 1) (by simpa using h)) (fun i h => h2 (i + 1) (by simpa using h))
    refine ⟨h1 0 (by simp), fun y hy => ?_, hc⟩
    match l, hc, hy, h1, h2 with
    | z :: l', hc, hy, h1, h2 =>
      have hz : Ah x z := h2 0 (by simp)
      rcases List.mem_cons.1 hy with rfl | hy
      · exact hz
      · exact Ah_trans hc.1 hz (hc.2.1 y hy)
theorem rest_can (l : List S) (h : rest l l.length 0 = true) : Cn l := by
  refine can_of l (fun i hi => ?_) (fun i hi => ?_)
  · have := (rest_all l _ _ h i (by omega) (by omega)).1
    rwa [rd_get l i hi] at this
  · have := (rest_all l _ _ h (i + 1) (by omega) (by omega)).2
    rcases this with h0 | h0
    · omega
    · rw [rd_get l (i + 1) hi, show (((i + 1 : Nat) : Int) - 1) = (i : Int) by omega, rd_get l i (by omega)] at h0
      exact h0
def ctlw (w : Int) : S := ⟨2, w, w + 8⟩
def chk (m : List S) (w : Int) : Int := if w < 0 ∨ 65528 < w then 1 else if rest m m.length 0 = true then (if Meets m (ctlw w) then 6 else 0) else 2
theorem ctlw_rt (w : Int) (h0 : 0 ≤ w) (h1 : w ≤ 65528) : Rt (ctlw w) := by unfold Rt ctlw; dsimp only; omega
theorem check_any (m : List S) (w : Int) (hl : m.length ≤ 100000) {k : Nat} (hk : m.length + 2 < k) : plan_Check.f k m w = some (chk m w) := by
  obtain ⟨k, rfl⟩ : ∃ j, k = j + 1 := ⟨k - 1, by omega⟩
  have hj : plan_Check.j0 (k + 1) m w true = some 1 := by rw [plan_Check.j0, if_pos rfl]
  unfold plan_Check.f chk
  by_cases h0 : w < 0
  · rw [if_pos h0, hj, if_pos (.inl h0)]
  · rw [if_neg h0]
    by_cases h1 : w > 65528
    · rw [decide_eq_true h1, hj, if_pos (.inr h1)]
    · rw [decide_eq_false h1, plan_Check.j0, if_neg (by decide), if_neg (by omega), canon_f m hl (by omega), Option.bind_some]
      by_cases hc : rest m m.length 0 = true
      · rw [if_pos hc, if_pos hc]
        unfold plan_control.f
        rw [Option.bind_some, wrap64_id (by omega) (by omega)]
        have e := meets_eq m (ctlw w) (rest_can m hc) (ctlw_rt w (by omega) (by omega)) hl (k := k) (by omega)
        refine (congrArg (fun z => Option.bind z _) e).trans ?_
        rw [Option.bind_some]
        by_cases h : Meets m (ctlw w)
        · rw [decide_eq_true h, if_pos rfl, if_pos h]
        · rw [decide_eq_false h, if_neg (by decide), if_neg h]
      · rw [if_neg hc, if_neg hc]
theorem refplan_any (m : List S) (w : Int) (hl : m.length ≤ 100000) {k : Nat} (hk : m.length + 2 < k) : busbarref12_Plan.f k m w = some (chk m w) := by
  obtain ⟨k, rfl⟩ : ∃ j, k = j + 1 := ⟨k - 1, by omega⟩
  have hj : busbarref12_Plan.j0 (k + 1) m w true = some 1 := by rw [busbarref12_Plan.j0, if_pos rfl]
  unfold busbarref12_Plan.f chk
  by_cases h0 : w < 0
  · rw [if_pos h0, hj, if_pos (.inl h0)]
  · rw [if_neg h0]
    by_cases h1 : w > 65528
    · rw [decide_eq_true h1, hj, if_pos (.inr h1)]
    · rw [decide_eq_false h1, busbarref12_Plan.j0, if_neg (by decide), if_neg (by omega), refcanon_f m hl (by omega), Option.bind_some]
      by_cases hc : rest m m.length 0 = true
      · rw [if_pos hc, if_pos hc]
        unfold busbarref12_control.f
        rw [Option.bind_some, wrap64_id (by omega) (by omega)]
        have e := refmeets_eq m (ctlw w) hl (k := k) (by omega)
        refine (congrArg (fun z => Option.bind z _) e).trans ?_
        rw [Option.bind_some]
        by_cases h : Meets m (ctlw w)
        · rw [decide_eq_true h, if_pos rfl, if_pos h]
        · rw [decide_eq_false h, if_neg (by decide), if_neg h]
      · rw [if_neg hc, if_neg hc]
end Go.Proofs.Ytmbkbpaoiilicaa.LemCheckPlanL

/- The chapter's example holds (group PlanL). -/
set_option linter.unusedVariables false
namespace Go.Proofs.Ytmbkbpaoiilicaa.LemAwakePlanL
open Go.RowKit Go.Proofs.Ytmbkbpaoiilicaa.PPlanL Go.Proofs.YtmbkbpaoiilicaaW.PrintWords Go.Proofs.YtmbkbpaoiilicaaW.PrintLast Go.Proofs.YtmbkbpaoiilicaaW.PrintMore
theorem awake_20 : busbarlaw13_awake.f 20 = some true := by decide +kernel
theorem awake_ev {k : Nat} (h : 20 ≤ k) : busbarlaw13_awake.f k = some true := at_rounds busbarlaw13_awake.mono h awake_20
end Go.Proofs.Ytmbkbpaoiilicaa.LemAwakePlanL
