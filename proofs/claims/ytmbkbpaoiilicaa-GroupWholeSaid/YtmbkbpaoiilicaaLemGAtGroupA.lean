/- Which group a key has (group GroupA). -/
import Derived.Test.YtmbkbpaoiilicaaPGroupAx0
import Derived.Test.YtmbkbpaoiilicaaPGroupAx19
import Derived.Test.YtmbkbpaoiilicaaPGroupAx20
import Derived.Test.YtmbkbpaoiilicaaPGroupAx21
import Derived.Test.YtmbkbpaoiilicaaLemGroupGroupA
set_option linter.unusedVariables false
set_option linter.unusedSimpArgs false
namespace Go.Proofs.Ytmbkbpaoiilicaa.LemGAtGroupA
open Go.RowKit Go.Proofs.Ytmbkbpaoiilicaa.PGroupA Go.Proofs.YtmbkbpaoiilicaaW.PrintWords Go.Proofs.YtmbkbpaoiilicaaW.PrintLast Go.Proofs.YtmbkbpaoiilicaaW.PrintMore Go.Proofs.Ytmbkbpaoiilicaa.Num Go.Proofs.Ytmbkbpaoiilicaa.LemGroupGroupA

theorem mask (X j : Nat) (hX : X < 2 ^ 64) (hj : j ≤ 64) : X &&& ((2 ^ (64 - j) - 1) <<< j) = (X >>> j) <<< j := by
  apply Nat.eq_of_testBit_eq
  intro i
  rw [Nat.testBit_and, Nat.testBit_shiftLeft, Nat.testBit_shiftLeft, Nat.testBit_two_pow_sub_one, Nat.testBit_shiftRight]
  by_cases h : i ≥ j
  · by_cases h2 : i - j < 64 - j
    · simp [h, h2, show j + (i - j) = i by omega]
    · have : X.testBit i = false := Nat.testBit_lt_two_pow (Nat.lt_of_lt_of_le hX (Nat.pow_le_pow_right (by omega) (by omega)))
      simp [h, this, show j + (i - j) = i by omega]
  · simp [h]
theorem andn1 (n : Int) (h0 : -9223372036854775808 ≤ n) (h1 : n < 9223372036854775808) : bits .andNot .i64 n 1 = n - n % 2 := by
  have e : (BitVec.ofInt 64 1).toNat = 1 := by decide
  have key : (BitVec.ofInt 64 n &&& ~~~BitVec.ofInt 64 1).toNat = (n % ((2 ^ 64 : Nat) : Int)).toNat / 2 * 2 := by
    rw [BitVec.toNat_and, BitVec.toNat_not, BitVec.toNat_ofInt, e, show 2 ^ 64 - 1 - 1 = (2 ^ (64 - 1) - 1) <<< 1 by decide, mask _ 1 (by omega) (by omega), Nat.shiftLeft_eq, Nat.shiftRight_eq_div_pow]
  show IntKind.i64.wrap ((BitVec.ofInt 64 n &&& ~~~BitVec.ofInt 64 1).toNat : Nat) = n - n % 2
  rw [key, IntKind.wrap_i64]
  omega
theorem andn3 (n : Int) (h0 : -9223372036854775808 ≤ n) (h1 : n < 9223372036854775808) : bits .andNot .i64 n 3 = n - n % 4 := by
  have e : (BitVec.ofInt 64 3).toNat = 3 := by decide
  have key : (BitVec.ofInt 64 n &&& ~~~BitVec.ofInt 64 3).toNat = (n % ((2 ^ 64 : Nat) : Int)).toNat / 4 * 4 := by
    rw [BitVec.toNat_and, BitVec.toNat_not, BitVec.toNat_ofInt, e, show 2 ^ 64 - 1 - 3 = (2 ^ (64 - 2) - 1) <<< 2 by decide, mask _ 2 (by omega) (by omega), Nat.shiftLeft_eq, Nat.shiftRight_eq_div_pow]
  show IntKind.i64.wrap ((BitVec.ofInt 64 n &&& ~~~BitVec.ofInt 64 3).toNat : Nat) = n - n % 4
  rw [key, IntKind.wrap_i64]
  omega
theorem inI_of (x : Int) (h0 : -9223372036854775808 ≤ x) (h1 : x < 9223372036854775808) : inI x = true := by
  unfold inI
  simp [Lit.wf, IntKind.min, IntKind.max, IntKind.bits, IntKind.signed]
  omega
theorem uniq {l : List Gr} (h : Gs l) {g g' : Gr} (hg : g ∈ l) (hg' : g' ∈ l) (ht : g.f0 = g'.f0) (h1 : g.f1 < g'.f1 + g'.f2) (h2 : g'.f1 < g.f1 + g.f2) : g = g' := by
  obtain ⟨i, hi, rfl⟩ := List.mem_iff_getElem.1 hg
  obtain ⟨j, hj, rfl⟩ := List.mem_iff_getElem.1 hg'
  rcases Nat.lt_trichotomy i j with c | c | c
  · have := gs_idx h hi hj c
    unfold Gah at this
    omega
  · subst c; rfl
  · have := gs_idx h hj hi c
    unfold Gah at this
    omega
theorem look_mem {l : List Gr} {t x : Int} {g : Gr} (h : atLook l t x = some g) : g ∈ l ∧ g.f0 = t ∧ g.f1 = x := by
  unfold atLook at h
  have h1 := List.mem_of_find?_eq_some h
  have h2 := List.find?_some h
  rw [List.mem_reverse] at h1
  simp only [Bool.and_eq_true, beq_iff_eq] at h2
  exact ⟨h1, h2.1, h2.2⟩
theorem look_of_mem {l : List Gr} (h : Gs l) {g : Gr} (hg : g ∈ l) : atLook l g.f0 g.f1 = some g := by
  cases e : atLook l g.f0 g.f1 with
  | none =>
    unfold atLook at e
    have := List.find?_eq_none.1 e g (List.mem_reverse.2 hg)
    simp at this
  | some g' =>
    obtain ⟨h1, h2, h3⟩ := look_mem e
    have k1 := h.1 g hg
    have k2 := h.1 g' h1
    unfold Gok at k1 k2
    rw [uniq h h1 hg h2 (by omega) (by omega)]
def own (l : List Gr) (t a : Int) : Option Gr := l.find? (fun g => g.f0 == t && (decide (g.f1 ≤ a) && decide (a < g.f1 + g.f2)))
def told (o : Option Gr) : Int × Int × Int × Bool := match o with
  | some g => (g.f0, g.f1, g.f2, true)
  | none => (0, 0, 0, false)
theorem own_mem {l : List Gr} {t a : Int} {g : Gr} (h : own l t a = some g) : g ∈ l ∧ g.f0 = t ∧ g.f1 ≤ a ∧ a < g.f1 + g.f2 := by
  unfold own at h
  have h1 := List.mem_of_find?_eq_some h
  have h2 := List.find?_some h
  simp only [Bool.and_eq_true, beq_iff_eq, decide_eq_true_eq] at h2
  exact ⟨h1, h2.1, h2.2.1, h2.2.2⟩
theorem own_none {l : List Gr} {t a : Int} (h : own l t a = none) {g : Gr} (hg : g ∈ l) (h0 : g.f0 = t) (h1 : g.f1 ≤ a) (h2 : a < g.f1 + g.f2) : False := by
  unfold own at h
  have := List.find?_eq_none.1 h g hg
  simp [h0, h1, h2] at this
theorem two_eq_own (l : List Gr) (h : Gs l) (t a : Int) (ha : -9223372036854775808 ≤ a) (hb : a < 9223372036854775808) : atTwo l t a = told (own l t a) := by
  unfold atTwo
  rw [andn1 a ha hb]
  cases e : own l t a with
  | some g =>
    obtain ⟨m1, m2, m3, m4⟩ := own_mem e
    have k := h.1 g m1
    unfold Gok at k
    subst m2
    have k5 := k.2.2.2.1
    rcases k.2.1 with s | s
    · rw [s] at k5
      have ex : a - a % 2 = g.f1 := by omega
      rw [ex, look_of_mem h m1]
      dsimp only
      rw [if_pos s]
      rfl
    · rw [s] at k5
      have ex : a - a % 4 = g.f1 := by omega
      have e4 : atFour l g.f0 a = (g.f0, g.f1, g.f2, true) := by
        unfold atFour
        rw [andn3 a ha hb, ex, look_of_mem h m1]
        dsimp only
        rw [if_pos s]
      rw [e4]
      cases e2 : atLook l g.f0 (a - a % 2) with
      | none => rfl
      | some g' =>
        obtain ⟨n1, n2, n3⟩ := look_mem e2
        dsimp only
        by_cases q : g'.f2 = 2
        · have := uniq h n1 m1 n2 (by omega) (by omega)
          subst this
          omega
        · rw [if_neg q]; rfl
  | none =>
    have e4 : atFour l t a = (0, 0, 0, false) := by
      unfold atFour
      rw [andn3 a ha hb]
      cases e3 : atLook l t (a - a % 4) with
      | none => rfl
      | some g' =>
        obtain ⟨n1, n2, n3⟩ := look_mem e3
        dsimp only
        by_cases q : g'.f2 = 4
        · exact (own_none e n1 n2 (by omega) (by omega)).elim
        · rw [if_neg q]
    rw [e4]
    cases e2 : atLook l t (a - a % 2) with
    | none => rfl
    | some g' =>
      obtain ⟨n1, n2, n3⟩ := look_mem e2
      dsimp only
      by_cases q : g'.f2 = 2
      · exact (own_none e n1 n2 (by omega) (by omega)).elim
      · rw [if_neg q]; rfl
theorem at_eq (l : List Gr) (h : Gs l) (t a : Int) (ht : -9223372036854775808 ≤ t ∧ t < 9223372036854775808) (ha : -9223372036854775808 ≤ a ∧ a < 9223372036854775808) : group_At.f l t a = some (told (own l t a)) := by
  have hall : (l.all fun g => inI g.f0 && inI g.f1) = true := by
    rw [List.all_eq_true]
    intro g hg
    have k := h.1 g hg
    unfold Gok at k
    rw [inI_of g.f0 (by omega) (by omega), inI_of g.f1 (by omega) (by omega)]
    rfl
  have e1 : inI (bits .andNot .i64 a 1) = true := by rw [andn1 a ha.1 ha.2]; exact inI_of _ (by omega) (by omega)
  have e3 : inI (bits .andNot .i64 a 3) = true := by rw [andn3 a ha.1 ha.2]; exact inI_of _ (by omega) (by omega)
  unfold group_At.f
  rw [hall, inI_of t ht.1 ht.2, e1, e3, show (true && true && true && true) = true from rfl, if_pos rfl, two_eq_own l h t a ha.1 ha.2]
theorem refat_loop (l : List Gr) (h : ∀ g ∈ l, Gok g) (hl : l.length ≤ 100000) (t a : Int) : ∀ (d i k : Nat), i + d = l.length → d < k → busbarref12_GroupAt.l0 k l (i : Int) t a = some (told (own (l.drop i) t a))
  | 0, i, k, hi, hk => by
    obtain ⟨k, rfl⟩ : ∃ m, k = m + 1 := ⟨k - 1, by omega⟩
    rw [busbarref12_GroupAt.l0, if_neg (by omega), List.drop_eq_nil_of_le (by omega)]
    rfl
  | d + 1, i, k, hi, hk => by
    obtain ⟨k, rfl⟩ : ∃ m, k = m + 1 := ⟨k - 1, by omega⟩
    have ih := refat_loop l h hl t a d (i + 1) k (by omega) (by omega)
    have hg := h l[i] (List.getElem_mem (by omega))
    unfold Gok at hg
    have hd : l.drop i = l[i] :: l.drop (i + 1) := List.drop_eq_getElem_cons (by omega)
    rw [busbarref12_GroupAt.l0, if_pos (by omega), if_pos (by omega), rdG_get l i (by omega), wrap64_id (x := (i : Int) + 1) (by omega) (by omega), wrap64_id (by omega) (by omega), hd]
    have ec : ((i : Int) + 1) = ((i + 1 : Nat) : Int) := by omega
    rw [ec, ih]
    unfold own
    rw [List.find?_cons]
    by_cases c0 : l[i].f0 = t
    · rw [if_pos c0]
      by_cases c1 : l[i].f1 ≤ a
      · rw [if_pos c1]
        by_cases c2 : a < l[i].f1 + l[i].f2
        · rw [if_pos c2, show (l[i].f0 == t && (decide (l[i].f1 ≤ a) && decide (a < l[i].f1 + l[i].f2))) = true by simp [c0, c1, c2]]
          rfl
        · rw [if_neg c2, show (l[i].f0 == t && (decide (l[i].f1 ≤ a) && decide (a < l[i].f1 + l[i].f2))) = false by simp [c2]]
      · rw [if_neg c1, show (l[i].f0 == t && (decide (l[i].f1 ≤ a) && decide (a < l[i].f1 + l[i].f2))) = false by simp [c1]]
    · rw [if_neg c0, show (l[i].f0 == t && (decide (l[i].f1 ≤ a) && decide (a < l[i].f1 + l[i].f2))) = false by simp [c0]]
theorem refat_eq (l : List Gr) (h : Gs l) (hl : l.length ≤ 100000) (t a : Int) {k : Nat} (hk : l.length < k) : busbarref12_GroupAt.f k l t a = some (told (own l t a)) := by
  unfold busbarref12_GroupAt.f
  exact refat_loop l h.1 hl t a l.length 0 k (by omega) hk
theorem refsplits_loop (l : List Gr) (h : ∀ g ∈ l, Gok g) (hl : l.length ≤ 100000) (t a b : Int) (hab : a < b) : ∀ (d i k : Nat), i + d = l.length → d < k → ∃ v, busbarref12_Splits.l0 k l (i : Int) t a b = some v ∧ (v = true ↔ ∃ g, g ∈ l.drop i ∧ Spl g t a b)
  | 0, i, k, hi, hk => by
    obtain ⟨k, rfl⟩ : ∃ m, k = m + 1 := ⟨k - 1, by omega⟩
    rw [busbarref12_Splits.l0, if_neg (by omega), List.drop_eq_nil_of_le (by omega)]
    exact ⟨false, rfl, by simp⟩
  | d + 1, i, k, hi, hk => by
    obtain ⟨k, rfl⟩ : ∃ m, k = m + 1 := ⟨k - 1, by omega⟩
    obtain ⟨v, ih, hv⟩ := refsplits_loop l h hl t a b hab d (i + 1) k (by omega) (by omega)
    have hg := h l[i] (List.getElem_mem (by omega))
    unfold Gok at hg
    have hd : l.drop i = l[i] :: l.drop (i + 1) := List.drop_eq_getElem_cons (by omega)
    have hex : (∃ g, g ∈ l.drop i ∧ Spl g t a b) ↔ Spl l[i] t a b ∨ ∃ g, g ∈ l.drop (i + 1) ∧ Spl g t a b := by
      constructor
      · rintro ⟨g, h1, h2⟩
        rw [hd] at h1
        rcases List.mem_cons.1 h1 with c | c
        · exact .inl (c ▸ h2)
        · exact .inr ⟨g, c, h2⟩
      · rintro (c | ⟨g, h1, h2⟩)
        · exact ⟨l[i], by rw [hd]; exact List.mem_cons_self, c⟩
        · exact ⟨g, by rw [hd]; exact List.mem_cons_of_mem _ h1, h2⟩
    have ec : ((i : Int) + 1) = ((i + 1 : Nat) : Int) := by omega
    rw [busbarref12_Splits.l0, if_pos (by omega), if_pos (by omega), rdG_get l i (by omega), wrap64_id (x := (i : Int) + 1) (by omega) (by omega), wrap64_id (by omega) (by omega), ec, ih]
    by_cases hs : Spl l[i] t a b
    · refine ⟨true, ?_, ⟨fun _ => hex.2 (.inl hs), fun _ => rfl⟩⟩
      unfold Spl at hs
      rw [if_pos hs.1, if_pos hs.2.2.1, if_pos hs.2.2.2.1]
      by_cases c : l[i].f1 < a
      · rw [if_pos c]
      · rw [if_neg c, if_pos (by omega)]
    · refine ⟨v, ?_, by rw [hv, hex]; exact ⟨.inr, fun h => h.resolve_left hs⟩⟩
      unfold Spl at hs
      by_cases c0 : l[i].f0 = t
      · rw [if_pos c0]
        by_cases c1 : l[i].f1 < b
        · rw [if_pos c1]
          by_cases c2 : a < l[i].f1 + l[i].f2
          · rw [if_pos c2, if_neg (by omega), if_neg (by omega)]
          · rw [if_neg c2]
        · rw [if_neg c1]
      · rw [if_neg c0]
theorem refsplits_eq (l : List Gr) (h : Gs l) (hl : l.length ≤ 100000) (t a b : Int) (hab : a < b) {k : Nat} (hk : l.length < k) : busbarref12_Splits.f k l t a b = some (decide (∃ g ∈ l, Spl g t a b)) := by
  unfold busbarref12_Splits.f
  obtain ⟨v, e, hv⟩ := refsplits_loop l h.1 hl t a b hab l.length 0 k (by omega) hk
  rw [show (0 : Int) = ((0 : Nat) : Int) from rfl, e]
  congr 1
  rw [Bool.eq_iff_iff, hv, decide_eq_true_eq, List.drop_zero]
end Go.Proofs.Ytmbkbpaoiilicaa.LemGAtGroupA
