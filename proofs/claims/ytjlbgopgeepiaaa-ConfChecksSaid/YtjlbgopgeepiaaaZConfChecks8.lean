/- Words and walks for ConfChecks (made of the session's own texts; each part by itself). -/
import Derived.RowKit
import Derived.Laws.BitsAllLaws
import Derived.Laws.BitsLemmas
import Derived.Test.YtjlbgopgeepiaaaZConfChecks7
set_option linter.unusedVariables false
namespace Go.Proofs.Ytjlbgopgeepiaaa.Num
open Go.RowKit Go.Proofs.YtjlbgopgeepiaaaW.PrintWords Go.Proofs.YtjlbgopgeepiaaaW.PrintMore
theorem wf_i64 {x : Int} (h : (Lit.int .i64 x).wf = true) : -9223372036854775808 ≤ x ∧ x < 9223372036854775808 := by
  simp [Lit.wf, IntKind.min, IntKind.max, IntKind.signed, IntKind.bits] at h; omega
theorem wrap64_id {x : Int} (h1 : -9223372036854775808 ≤ x) (h2 : x < 9223372036854775808) : wrap64 x = x := by unfold wrap64; omega
theorem tmod_pos {a b : Int} (h : 0 ≤ a) : Int.tmod a b = a % b := Int.tmod_eq_emod_of_nonneg h
theorem rd_get (l : List Int) (i : Nat) (h : i < l.length) : rd l (i : Int) = l[i] := by simp [rd, List.getD_eq_getElem?_getD, List.getElem?_eq_getElem h]
def raw (l : List Int) : List Int := l.flatMap fun w => [w / 256, w % 256]
end Go.Proofs.Ytjlbgopgeepiaaa.Num
set_option linter.unusedVariables false
set_option linter.unusedSimpArgs false
namespace Go.Proofs.Ytjlbgopgeepiaaa.LemIdenConf
open Go.RowKit Go.Proofs.Ytjlbgopgeepiaaa.PConf Go.Proofs.YtjlbgopgeepiaaaW.PrintWords Go.Proofs.YtjlbgopgeepiaaaW.PrintLast Go.Proofs.YtjlbgopgeepiaaaW.PrintMore Go.Proofs.Ytjlbgopgeepiaaa.Num
theorem rd50 (l : List S50) (i : Nat) (h : i < l.length) : rd_T50 l (i : Int) = l[i] := by
  unfold rd_T50
  rw [Int.toNat_natCast, List.getD_eq_getElem?_getD, List.getElem?_eq_getElem h, Option.getD_some]
def Rise (l : List S50) (n : Nat) : Prop := ∀ i, (hi : i < l.length) → i < n → 0 ≤ l[i].f0 ∧ l[i].f0 ≤ 255 ∧ (∀ j, (hj : j < i) → l[j].f0 < l[i].f0)
theorem placeAt_neg (id : Int) : ∀ (l : List S50) (i : Nat), (placeAt id l i < 0) ↔ ∀ x ∈ l, x.f0 ≠ id
  | [], i => by simp [placeAt]
  | x :: l, i => by
    have ih := placeAt_neg id l (i + 1)
    unfold placeAt
    by_cases h : x.f0 = id
    · rw [if_pos h]
      constructor
      · intro c; omega
      · intro c; exact absurd h (c x List.mem_cons_self)
    · rw [if_neg h, ih]
      constructor
      · intro c y hy
        rcases List.mem_cons.1 hy with rfl | hy
        · exact h
        · exact c y hy
      · intro c y hy
        exact c y (List.mem_cons_of_mem _ hy)
theorem iden_l2 (l : List S50) (hl : l.length ≤ 100000) (hr : Rise l l.length) : ∀ (d i k : Nat), i + d = 3 → d < k → (∀ j, (hj : j < l.length) → j < i → l[j].f0 = (j : Int)) → i ≤ l.length → ∃ v, iden_Check.l2 k l (i : Int) = some v ∧ busbarref5_Objects.l2 k l (i : Int) = some v
  | 0, i, k, hi, hk, hp, hil => by
    obtain ⟨k, rfl⟩ : ∃ m, k = m + 1 := ⟨k - 1, by omega⟩
    exact ⟨0, by rw [iden_Check.l2, if_neg (by omega)], by rw [busbarref5_Objects.l2, if_neg (by omega)]⟩
  | d + 1, i, k, hi, hk, hp, hil => by
    obtain ⟨k, rfl⟩ : ∃ m, k = m + 1 := ⟨k - 1, by omega⟩
    have hf : iden_place.f l (i : Int) = some (placeAt (i : Int) l 0) := rfl
    have hn := placeAt_neg (i : Int) l 0
    by_cases hlen : i < l.length
    · by_cases hq : l[i].f0 = (i : Int)
      · have hnn : ¬ placeAt (i : Int) l 0 < 0 := fun c => hn.1 c l[i] (List.getElem_mem hlen) hq
        obtain ⟨v, h1, h2⟩ := iden_l2 l hl hr d (i + 1) k (by omega) (by omega) (fun j hj hji => by
          by_cases c : j = i
          · subst c; exact hq
          · exact hp j hj (by omega)) (by omega)
        refine ⟨v, ?_, ?_⟩
        · rw [iden_Check.l2, if_pos (by omega), hf, Option.bind_some, if_neg hnn, wrap64_id (by omega) (by omega)]
          exact h1
        · rw [busbarref5_Objects.l2, if_pos (by omega), if_neg (by omega), if_pos (by omega), if_pos (by omega), rd50 l i hlen, if_pos hq, wrap64_id (by omega) (by omega)]
          exact h2
      · have hneg : placeAt (i : Int) l 0 < 0 := by
          refine hn.2 fun x hx => ?_
          obtain ⟨j, hj, rfl⟩ := List.mem_iff_getElem.1 hx
          intro c
          rcases Nat.lt_trichotomy j i with q | q | q
          · have := hp j hj q
            omega
          · subst q; exact hq c
          · have r1 := (hr j hj hj).2.2 i q
            have r2 : (i : Int) ≤ l[i].f0 := by
              rcases Nat.eq_zero_or_pos i with z | z
              · have := (hr i hlen hlen).1
                omega
              · have := (hr i hlen hlen).2.2 (i - 1) (by omega)
                have := hp (i - 1) (by omega) (by omega)
                omega
            omega
        exact ⟨5, by rw [iden_Check.l2, if_pos (by omega), hf, Option.bind_some, if_pos hneg], by rw [busbarref5_Objects.l2, if_pos (by omega), if_neg (by omega), if_pos (by omega), if_pos (by omega), rd50 l i hlen, if_neg hq]⟩
    · have hneg : placeAt (i : Int) l 0 < 0 := by
        refine hn.2 fun x hx => ?_
        obtain ⟨j, hj, rfl⟩ := List.mem_iff_getElem.1 hx
        intro c
        have := hp j hj (by omega)
        omega
      exact ⟨5, by rw [iden_Check.l2, if_pos (by omega), hf, Option.bind_some, if_pos hneg], by rw [busbarref5_Objects.l2, if_pos (by omega), if_pos (by omega)]⟩
theorem iden_l1 (l : List S50) (hl : l.length ≤ 100000) (hr : Rise l l.length) : ∀ (d i k : Nat), i + d = l.length → d + 5 ≤ k → ∃ v, iden_Check.l1 k l l (l.length : Int) (i : Int) = some v ∧ busbarref5_Objects.l1 k l (i : Int) = some v
  | 0, i, k, hi, hk => by
    obtain ⟨k, rfl⟩ : ∃ m, k = m + 1 := ⟨k - 1, by omega⟩
    obtain ⟨v, h1, h2⟩ := iden_l2 l hl hr 3 0 k (by omega) (by omega) (fun j hj hji => by omega) (by omega)
    exact ⟨v, by rw [iden_Check.l1, if_neg (by omega)]; exact h1, by rw [busbarref5_Objects.l1, if_neg (by omega)]; exact h2⟩
  | d + 1, i, k, hi, hk => by
    obtain ⟨k, rfl⟩ : ∃ m, k = m + 1 := ⟨k - 1, by omega⟩
    obtain ⟨v, h1, h2⟩ := iden_l1 l hl hr d (i + 1) k (by omega) (by omega)
    by_cases h : (((rd_T50 l (i : Int)).f1).size : Int) > 244
    · exact ⟨4, by rw [iden_Check.l1, if_pos (by omega), if_pos (by omega), if_pos (by omega), if_pos h], by rw [busbarref5_Objects.l1, if_pos (by omega), if_pos (by omega), if_pos h]⟩
    · exact ⟨v, by rw [iden_Check.l1, if_pos (by omega), if_pos (by omega), if_pos (by omega), if_neg h, wrap64_id (by omega) (by omega)]; exact h1, by rw [busbarref5_Objects.l1, if_pos (by omega), if_pos (by omega), if_neg h, wrap64_id (by omega) (by omega)]; exact h2⟩
theorem byteful_eq (x : Int) : busbarref5_byteful.f x = some (decide (0 ≤ x ∧ x ≤ 255)) := by
  unfold busbarref5_byteful.f
  by_cases h : x ≥ 0
  · rw [if_pos h]
    congr 1
    rw [decide_eq_decide]
    omega
  · rw [if_neg h, decide_eq_false (by omega)]
theorem iden_l0 (l : List S50) (hl : l.length ≤ 100000) : ∀ (d i k : Nat), i + d = l.length → 2 * d + l.length + 8 ≤ k → Rise l i → ∃ v, iden_Check.l0 k l l (l.length : Int) (i : Int) = some v ∧ busbarref5_Objects.l0 k l (i : Int) = some v
  | 0, i, k, hi, hk, hr => by
    obtain ⟨k, rfl⟩ : ∃ m, k = m + 1 := ⟨k - 1, by omega⟩
    obtain ⟨v, h1, h2⟩ := iden_l1 l hl (by rw [show l.length = i by omega]; exact hr) l.length 0 k (by omega) (by omega)
    exact ⟨v, by rw [iden_Check.l0, if_neg (by omega)]; exact h1, by rw [busbarref5_Objects.l0, if_neg (by omega)]; exact h2⟩
  | d + 1, i, k, hi, hk, hr => by
    obtain ⟨k, rfl⟩ : ∃ m, k = m + 1 := ⟨k - 1, by omega⟩
    have hlen : i < l.length := by omega
    have e1 := fun (P : Option Int → Prop) (h : P (if l[i].f0 < 0 then some 1 else if l[i].f0 > 255 then some 1 else if (i : Int) > 0 then (if 0 ≤ (wrap64 ((i : Int) - 1)) then (if (wrap64 ((i : Int) - 1)) < (l.length : Int) then (if l[i].f0 ≤ ((rd_T50 l (wrap64 ((i : Int) - 1))).f0) then some 1 else iden_Check.l0 k l l (l.length : Int) (wrap64 ((i : Int) + 1))) else none) else none) else iden_Check.l0 k l l (l.length : Int) (wrap64 ((i : Int) + 1)))) => show P (iden_Check.l0 (k + 1) l l (l.length : Int) (i : Int)) by
      rw [iden_Check.l0, if_pos (by omega), if_pos (by omega), if_pos (by omega), rd50 l i hlen]; exact h
    by_cases hb : 0 ≤ l[i].f0 ∧ l[i].f0 ≤ 255
    · have hnext : Rise l (i + 1) → ∃ v, iden_Check.l0 k l l (l.length : Int) (((i + 1 : Nat) : Int)) = some v ∧ busbarref5_Objects.l0 k l (((i + 1 : Nat) : Int)) = some v := fun h => iden_l0 l hl d (i + 1) k (by omega) (by omega) h
      have ec : wrap64 ((i : Int) + 1) = ((i + 1 : Nat) : Int) := by rw [wrap64_id (by omega) (by omega)]; omega
      by_cases h0 : (i : Int) > 0
      · have hp : wrap64 ((i : Int) - 1) = ((i - 1 : Nat) : Int) := by rw [wrap64_id (by omega) (by omega)]; omega
        by_cases hc : l[i].f0 ≤ l[i - 1].f0
        · refine ⟨1, e1 (fun z => z = some 1) ?_, ?_⟩
          · rw [if_neg (by omega), if_neg (by omega), if_pos h0, hp, if_pos (by omega), if_pos (by omega), rd50 l (i - 1) (by omega), if_pos hc]
          · rw [busbarref5_Objects.l0, if_pos (by omega), if_pos (by omega), rd50 l i hlen, byteful_eq, Option.bind_some, decide_eq_true hb, if_pos rfl, if_pos h0, hp, if_pos (by omega), if_pos (by omega), rd50 l (i - 1) (by omega), if_pos (by omega)]
        · obtain ⟨v, h1, h2⟩ := hnext (fun j hj hji => by
            by_cases c : j = i
            · subst c
              refine ⟨hb.1, hb.2, fun q hq => ?_⟩
              by_cases e : q = j - 1
              · subst e; omega
              · have := (hr (j - 1) (by omega) (by omega)).2.2 q (by omega)
                omega
            · exact hr j hj (by omega))
          refine ⟨v, e1 (fun z => z = some v) ?_, ?_⟩
          · rw [if_neg (by omega), if_neg (by omega), if_pos h0, hp, if_pos (by omega), if_pos (by omega), rd50 l (i - 1) (by omega), if_neg hc, ec]
            exact h1
          · rw [busbarref5_Objects.l0, if_pos (by omega), if_pos (by omega), rd50 l i hlen, byteful_eq, Option.bind_some, decide_eq_true hb, if_pos rfl, if_pos h0, hp, if_pos (by omega), if_pos (by omega), rd50 l (i - 1) (by omega), if_neg (by omega), ec]
            exact h2
      · obtain ⟨v, h1, h2⟩ := hnext (fun j hj hji => by
          have : j = i := by omega
          subst this
          exact ⟨hb.1, hb.2, fun q hq => by omega⟩)
        refine ⟨v, e1 (fun z => z = some v) ?_, ?_⟩
        · rw [if_neg (by omega), if_neg (by omega), if_neg h0, ec]
          exact h1
        · rw [busbarref5_Objects.l0, if_pos (by omega), if_pos (by omega), rd50 l i hlen, byteful_eq, Option.bind_some, decide_eq_true hb, if_pos rfl, if_neg h0, ec]
          exact h2
    · refine ⟨1, e1 (fun z => z = some 1) ?_, ?_⟩
      · by_cases c : l[i].f0 < 0
        · rw [if_pos c]
        · rw [if_neg c, if_pos (by omega)]
      · rw [busbarref5_Objects.l0, if_pos (by omega), if_pos (by omega), rd50 l i hlen, byteful_eq, Option.bind_some, decide_eq_false hb, if_neg (by decide)]
theorem iden_eq (l : List S50) (hl : l.length ≤ 100000) {k : Nat} (hk : 3 * l.length + 8 ≤ k) : ∃ v, iden_Check.f k l = some v ∧ busbarref5_Objects.f k l = some v := iden_l0 l hl l.length 0 k (by omega) (by omega) (fun j hj hji => by omega)
end Go.Proofs.Ytjlbgopgeepiaaa.LemIdenConf
set_option linter.unusedVariables false
set_option linter.unusedSimpArgs false
namespace Go.Proofs.Ytjlbgopgeepiaaa.LemSpanConf
open Go.RowKit Go.Proofs.Ytjlbgopgeepiaaa.PConf Go.Proofs.YtjlbgopgeepiaaaW.PrintWords Go.Proofs.YtjlbgopgeepiaaaW.PrintLast Go.Proofs.YtjlbgopgeepiaaaW.PrintMore Go.Proofs.Ytjlbgopgeepiaaa.Num
abbrev S := S46
def Rt (s : S) : Prop := 0 ≤ s.f0 ∧ s.f0 < 4 ∧ 0 ≤ s.f1 ∧ s.f2 ≤ 65536 ∧ s.f1 < s.f2
instance (s : S) : Decidable (Rt s) := by unfold Rt; infer_instance
def Ah (a b : S) : Prop := a.f0 < b.f0 ∨ (a.f0 = b.f0 ∧ a.f2 < b.f1)
instance (a b : S) : Decidable (Ah a b) := by unfold Ah; infer_instance
def Cn : List S → Prop
  | [] => True
  | x :: l => Rt x ∧ (∀ y ∈ l, Ah x y) ∧ Cn l
def mg (s x : S) : S := ⟨s.f0, mn s.f1 x.f1, mx s.f2 x.f2⟩
def add : List S → S → List S
  | [], s => [s]
  | x :: l, s => if Ah x s then x :: add l s else if Ah s x then s :: x :: l else add l (mg s x)
def In (x : S) (t p : Int) : Prop := x.f0 = t ∧ x.f1 ≤ p ∧ p < x.f2
instance (x : S) (t p : Int) : Decidable (In x t p) := by unfold In; infer_instance
def Has (l : List S) (t p : Int) : Prop := ∃ x ∈ l, In x t p
theorem Ah_trans {a b c : S} (hb : Rt b) (h : Ah a b) (k : Ah b c) : Ah a c := by
  unfold Ah Rt at *; omega
def size : List S → Int
  | [] => 0
  | x :: l => (x.f2 - x.f1) + size l
def over (x s : S) : Int := if x.f0 = s.f0 ∧ s.f1 < x.f2 ∧ x.f1 < s.f2 then mn x.f2 s.f2 - mx x.f1 s.f1 else 0
def Meets (l : List S) (s : S) : Prop := ∃ x ∈ l, x.f0 = s.f0 ∧ x.f1 < s.f2 ∧ s.f1 < x.f2
def Covers (l : List S) (s : S) : Prop := ∃ x ∈ l, x.f0 = s.f0 ∧ x.f1 ≤ s.f1 ∧ s.f2 ≤ x.f2
end Go.Proofs.Ytjlbgopgeepiaaa.LemSpanConf
set_option linter.unusedVariables false
namespace Go.Proofs.Ytjlbgopgeepiaaa.LemWithinConf
open Go.RowKit Go.Proofs.Ytjlbgopgeepiaaa.PConf Go.Proofs.YtjlbgopgeepiaaaW.PrintWords Go.Proofs.YtjlbgopgeepiaaaW.PrintLast Go.Proofs.YtjlbgopgeepiaaaW.PrintMore Go.Proofs.Ytjlbgopgeepiaaa.Num
theorem within_eq (x n : Int) (hn : 0 < n) (hn2 : n < 4611686018427387904) : busbarlaw0_Within.f x n = some (x % n) := by
  have h0 := Int.emod_nonneg x (show n ≠ 0 by omega)
  have h1 := Int.emod_lt_of_pos x hn
  have ht := Int.tmod_eq_emod (a := x) (b := n)
  have hna : (n.natAbs : Int) = n := by omega
  unfold busbarlaw0_Within.f
  rw [if_neg (by omega)]
  by_cases hc : 0 ≤ x ∨ n ∣ x
  · rw [if_pos hc] at ht
    rw [if_neg (by omega)]
    congr 1
    omega
  · rw [if_neg hc, hna] at ht
    have hne : x % n ≠ 0 := fun h => hc (.inr (Int.dvd_of_emod_eq_zero h))
    rw [if_pos (by omega), wrap64_id (by omega) (by omega)]
    congr 1
    omega
end Go.Proofs.Ytjlbgopgeepiaaa.LemWithinConf
set_option linter.unusedVariables false
set_option linter.unusedSimpArgs false
namespace Go.Proofs.Ytjlbgopgeepiaaa.LemSpanFnConf
open Go.RowKit Go.Proofs.Ytjlbgopgeepiaaa.PConf Go.Proofs.YtjlbgopgeepiaaaW.PrintWords Go.Proofs.YtjlbgopgeepiaaaW.PrintLast Go.Proofs.YtjlbgopgeepiaaaW.PrintMore Go.Proofs.Ytjlbgopgeepiaaa.Num Go.Proofs.Ytjlbgopgeepiaaa.LemSpanConf Go.Proofs.Ytjlbgopgeepiaaa.LemWithinConf
theorem rdS (pre : List S) (x : S) (rest : List S) : rd_T46 (pre ++ x :: rest) (pre.length : Int) = x := by
  unfold rd_T46
  rw [Int.toNat_natCast, List.getD_eq_getElem?_getD, List.getElem?_append_right (Nat.le_refl _), Nat.sub_self]
  rfl
theorem ahead_eq (x s : S) : span_ahead.f x.f0 x.f1 x.f2 s.f0 s.f1 s.f2 = some (decide (Ah x s)) := by
  unfold span_ahead.f
  by_cases h1 : x.f0 < s.f0
  · rw [if_pos h1, decide_eq_true (show Ah x s from .inl h1)]
  · rw [if_neg h1]
    by_cases h2 : x.f0 = s.f0
    · rw [if_pos h2]
      by_cases h3 : x.f2 < s.f1
      · rw [decide_eq_true h3, decide_eq_true (show Ah x s from .inr ⟨h2, h3⟩)]
      · rw [decide_eq_false h3, decide_eq_false (show ¬ Ah x s by unfold Ah; omega)]
    · rw [if_neg h2, decide_eq_false (show ¬ Ah x s by unfold Ah; omega)]
theorem right_eq (s : S) : span_Right.f s.f0 s.f1 s.f2 = some (decide (Rt s)) := by
  unfold span_Right.f
  by_cases h1 : s.f0 ≥ 0
  · rw [if_pos h1]
    by_cases h2 : s.f0 < 4
    · rw [if_pos h2]
      by_cases h3 : s.f1 ≥ 0
      · rw [if_pos h3]
        by_cases h4 : s.f2 ≤ 65536
        · rw [if_pos h4]
          by_cases h5 : s.f1 < s.f2
          · rw [decide_eq_true h5, decide_eq_true (show Rt s by unfold Rt; omega)]
          · rw [decide_eq_false h5, decide_eq_false (show ¬ Rt s by unfold Rt; omega)]
        · rw [if_neg h4, decide_eq_false (show ¬ Rt s by unfold Rt; omega)]
      · rw [if_neg h3, decide_eq_false (show ¬ Rt s by unfold Rt; omega)]
    · rw [if_neg h2, decide_eq_false (show ¬ Rt s by unfold Rt; omega)]
  · rw [if_neg h1, decide_eq_false (show ¬ Rt s by unfold Rt; omega)]
end Go.Proofs.Ytjlbgopgeepiaaa.LemSpanFnConf
set_option linter.unusedVariables false
set_option linter.unusedSimpArgs false
namespace Go.Proofs.Ytjlbgopgeepiaaa.LemCanonConf
open Go.RowKit Go.Proofs.Ytjlbgopgeepiaaa.PConf Go.Proofs.YtjlbgopgeepiaaaW.PrintWords Go.Proofs.YtjlbgopgeepiaaaW.PrintLast Go.Proofs.YtjlbgopgeepiaaaW.PrintMore Go.Proofs.Ytjlbgopgeepiaaa.Num Go.Proofs.Ytjlbgopgeepiaaa.LemSpanConf Go.Proofs.Ytjlbgopgeepiaaa.LemSpanFnConf
theorem refright_eq (s : S) : busbarref12_Right.f s.f0 s.f1 s.f2 = some (decide (Rt s)) := by
  unfold busbarref12_Right.f
  by_cases h1 : s.f0 ≥ 0
  · rw [if_pos h1]
    by_cases h2 : s.f0 ≤ 3
    · rw [if_pos h2]
      by_cases h3 : s.f1 ≥ 0
      · rw [if_pos h3]
        by_cases h4 : s.f2 ≤ 65536
        · rw [if_pos h4]
          by_cases h5 : s.f1 < s.f2
          · rw [decide_eq_true h5, decide_eq_true (show Rt s by unfold Rt; omega)]
          · rw [decide_eq_false h5, decide_eq_false (show ¬ Rt s by unfold Rt; omega)]
        · rw [if_neg h4, decide_eq_false (show ¬ Rt s by unfold Rt; omega)]
      · rw [if_neg h3, decide_eq_false (show ¬ Rt s by unfold Rt; omega)]
    · rw [if_neg h2, decide_eq_false (show ¬ Rt s by unfold Rt; omega)]
  · rw [if_neg h1, decide_eq_false (show ¬ Rt s by unfold Rt; omega)]
def rest (l : List S) : Nat → Nat → Bool
  | 0, _ => true
  | d + 1, i => decide (Rt (rd_T46 l (i : Int))) && (decide (i = 0) || decide (Ah (rd_T46 l ((i : Int) - 1)) (rd_T46 l (i : Int)))) && rest l d (i + 1)
theorem canon_any (l : List S) (hl : l.length ≤ 100000) : ∀ (d i k : Nat), i + d = l.length → d < k → span_Canon.l0 k l l (l.length : Int) (i : Int) = some (rest l d i)
  | 0, i, k, h, hk => by
    obtain ⟨k, rfl⟩ : ∃ m, k = m + 1 := ⟨k - 1, by omega⟩
    rw [span_Canon.l0, if_neg (by omega)]
    rfl
  | d + 1, i, k, h, hk => by
    obtain ⟨k, rfl⟩ : ∃ m, k = m + 1 := ⟨k - 1, by omega⟩
    have ih := canon_any l hl d (i + 1) k (by omega) (by omega)
    have hw : wrap64 ((i : Int) + 1) = ((i + 1 : Nat) : Int) := by rw [wrap64_id (by omega) (by omega)]; rfl
    rw [span_Canon.l0, if_pos (by omega), if_pos (by omega), if_pos (by omega), right_eq, Option.bind_some, hw, ih]
    rw [show rest l (d + 1) i = (decide (Rt (rd_T46 l (i : Int))) && (decide (i = 0) || decide (Ah (rd_T46 l ((i : Int) - 1)) (rd_T46 l (i : Int)))) && rest l d (i + 1)) from rfl]
    by_cases hr : Rt (rd_T46 l (i : Int))
    · rw [decide_eq_true hr, if_pos rfl]
      by_cases h0 : i = 0
      · rw [if_neg (by omega), decide_eq_true h0]
        simp
      · rw [if_pos (by omega), wrap64_id (by omega) (by omega), if_pos (by omega), if_pos (by omega), ahead_eq, Option.bind_some, decide_eq_false h0]
        by_cases ha : Ah (rd_T46 l ((i : Int) - 1)) (rd_T46 l (i : Int))
        · rw [decide_eq_true ha, if_pos rfl]; simp
        · rw [decide_eq_false ha, if_neg (by decide)]; simp
    · rw [decide_eq_false hr, if_neg (by decide)]
      simp
theorem refcanon_any (l : List S) (hl : l.length ≤ 100000) : ∀ (d i k : Nat), i + d = l.length → d < k → busbarref12_Canon.l0 k l (i : Int) = some (rest l d i)
  | 0, i, k, h, hk => by
    obtain ⟨k, rfl⟩ : ∃ m, k = m + 1 := ⟨k - 1, by omega⟩
    rw [busbarref12_Canon.l0, if_neg (by omega)]
    rfl
  | d + 1, i, k, h, hk => by
    obtain ⟨k, rfl⟩ : ∃ m, k = m + 1 := ⟨k - 1, by omega⟩
    have ih := refcanon_any l hl d (i + 1) k (by omega) (by omega)
    have hw : wrap64 ((i : Int) + 1) = ((i + 1 : Nat) : Int) := by rw [wrap64_id (by omega) (by omega)]; rfl
    rw [busbarref12_Canon.l0, if_pos (by omega), if_pos (by omega), refright_eq, Option.bind_some, hw, ih]
    rw [show rest l (d + 1) i = (decide (Rt (rd_T46 l (i : Int))) && (decide (i = 0) || decide (Ah (rd_T46 l ((i : Int) - 1)) (rd_T46 l (i : Int)))) && rest l d (i + 1)) from rfl]
    by_cases hr : Rt (rd_T46 l (i : Int))
    · rw [decide_eq_true hr, if_pos rfl]
      by_cases h0 : i = 0
      · rw [if_neg (by omega), decide_eq_true h0]
        simp
      · rw [if_pos (by omega), wrap64_id (x := (i : Int) - 1) (by omega) (by omega), if_pos (by omega), if_pos (by omega), decide_eq_false h0]
        by_cases ha : Ah (rd_T46 l ((i : Int) - 1)) (rd_T46 l (i : Int))
        · rw [decide_eq_true ha]
          unfold Ah at ha
          rw [if_neg (by omega)]
          by_cases he : (rd_T46 l ((i : Int) - 1)).f0 = (rd_T46 l (i : Int)).f0
          · rw [if_pos he, if_neg (by omega)]; simp
          · rw [if_neg he]; simp
        · rw [decide_eq_false ha]
          unfold Ah at ha
          by_cases hg : (rd_T46 l ((i : Int) - 1)).f0 > (rd_T46 l (i : Int)).f0
          · rw [if_pos hg]; simp
          · rw [if_neg hg, if_pos (by omega), if_pos (by omega)]; simp
    · rw [decide_eq_false hr, if_neg (by decide)]
      simp
theorem canon_f (l : List S) (hl : l.length ≤ 100000) {k : Nat} (hk : l.length < k) : span_Canon.f k l = some (rest l l.length 0) := canon_any l hl l.length 0 k (by omega) hk
theorem refcanon_f (l : List S) (hl : l.length ≤ 100000) {k : Nat} (hk : l.length < k) : busbarref12_Canon.f k l = some (rest l l.length 0) := refcanon_any l hl l.length 0 k (by omega) hk
end Go.Proofs.Ytjlbgopgeepiaaa.LemCanonConf
set_option linter.unusedVariables false
set_option linter.unusedSimpArgs false
namespace Go.Proofs.Ytjlbgopgeepiaaa.LemSpanFmConf
open Go.RowKit Go.Proofs.Ytjlbgopgeepiaaa.PConf Go.Proofs.YtjlbgopgeepiaaaW.PrintWords Go.Proofs.YtjlbgopgeepiaaaW.PrintLast Go.Proofs.YtjlbgopgeepiaaaW.PrintMore Go.Proofs.Ytjlbgopgeepiaaa.Num Go.Proofs.Ytjlbgopgeepiaaa.LemSpanConf Go.Proofs.Ytjlbgopgeepiaaa.LemWithinConf Go.Proofs.Ytjlbgopgeepiaaa.LemSpanFnConf
theorem idx (pre rest : List S) (x : S) : ((pre ++ x :: rest).length : Int) = (pre.length : Int) + rest.length + 1 := by rw [List.length_append, List.length_cons]; omega
theorem nxt (pre : List S) (x : S) (h : pre.length ≤ 100000) : wrap64 ((pre.length : Int) + 1) = ((pre ++ [x]).length : Int) := by
  rw [wrap64_id (by omega) (by omega), List.length_append]; rfl
theorem digit_eq (n d m : Int) (hn : -9223372036854775808 ≤ n ∧ n < 9223372036854775808) (hd : 2 ≤ d) (hm : 0 < m) (hm2 : m < 4611686018427387904) : busbarlaw0_Digit.f n d m = some (Int.tdiv n d % m) := by
  unfold busbarlaw0_Digit.f
  have h : -9223372036854775808 ≤ Int.tdiv n d ∧ Int.tdiv n d < 9223372036854775808 := by
    have h3 : (Int.natAbs (Int.tdiv n d)) ≤ Int.natAbs n / 2 := by rw [Int.natAbs_tdiv]; exact Nat.div_le_div_left (by omega) (by omega)
    omega
  rw [if_neg (by omega), wrap64_id h.1 h.2, within_eq _ m hm hm2]
  rfl
end Go.Proofs.Ytjlbgopgeepiaaa.LemSpanFmConf
set_option linter.unusedVariables false
set_option linter.unusedSimpArgs false
namespace Go.Proofs.Ytjlbgopgeepiaaa.LemSpanFoConf
open Go.RowKit Go.Proofs.Ytjlbgopgeepiaaa.PConf Go.Proofs.YtjlbgopgeepiaaaW.PrintWords Go.Proofs.YtjlbgopgeepiaaaW.PrintLast Go.Proofs.YtjlbgopgeepiaaaW.PrintMore Go.Proofs.Ytjlbgopgeepiaaa.Num Go.Proofs.Ytjlbgopgeepiaaa.LemSpanConf Go.Proofs.Ytjlbgopgeepiaaa.LemWithinConf Go.Proofs.Ytjlbgopgeepiaaa.LemSpanFnConf Go.Proofs.Ytjlbgopgeepiaaa.LemSpanFmConf
instance (l : List S) (t p : Int) : Decidable (Has l t p) := by unfold Has; infer_instance
instance (l : List S) (s : S) : Decidable (Meets l s) := by unfold Meets; infer_instance
instance (l : List S) (s : S) : Decidable (Covers l s) := by unfold Covers; infer_instance
theorem pos (pre rest : List S) (x : S) : (pre.length : Int) < ((pre ++ x :: rest).length : Int) := by rw [idx]; omega
theorem both_same (x s : S) (h : x.f0 = s.f0) : span_both.f x.f0 x.f1 x.f2 s.f0 s.f1 s.f2 = some (x.f0, mx x.f1 s.f1, mn x.f2 s.f2) := by unfold span_both.f; rw [if_pos h]
theorem both_other (x s : S) (h : x.f0 ≠ s.f0) : span_both.f x.f0 x.f1 x.f2 s.f0 s.f1 s.f2 = some (0, 0, 0) := by unfold span_both.f; rw [if_neg h]
theorem right3 (a b c : Int) : span_Right.f a b c = some (decide (Rt ⟨a, b, c⟩)) := right_eq ⟨a, b, c⟩
theorem covers_loop (s : S) (hs : Rt s) : ∀ (rest pre : List S) (k : Nat), pre.length + rest.length ≤ 100000 → rest.length < k → span_Covers.l0 k (pre ++ rest) ((pre ++ rest).length : Int) (pre.length : Int) s.f0 s.f1 s.f2 = some (decide (Covers rest s))
  | [], pre, k, hp, hk => by
    obtain ⟨k, rfl⟩ : ∃ m, k = m + 1 := ⟨k - 1, by omega⟩
    rw [List.append_nil, span_Covers.l0, if_neg (by omega), decide_eq_false (by simp [Covers])]
  | x :: rest, pre, k, hp, hk => by
    rw [List.length_cons] at hp hk
    obtain ⟨k, rfl⟩ : ∃ m, k = m + 1 := ⟨k - 1, by omega⟩
    have ih := covers_loop s hs rest (pre ++ [x]) k (by simp; omega) (by omega)
    rw [List.append_assoc pre] at ih
    have hc : Covers (x :: rest) s ↔ (x.f0 = s.f0 ∧ x.f1 ≤ s.f1 ∧ s.f2 ≤ x.f2) ∨ Covers rest s := by simp [Covers]
    have hn : ¬ (x.f0 = s.f0 ∧ x.f1 ≤ s.f1 ∧ s.f2 ≤ x.f2) → span_Covers.l0 k (pre ++ x :: rest) ((pre ++ x :: rest).length : Int) (wrap64 ((pre.length : Int) + 1)) s.f0 s.f1 s.f2 = some (decide (Covers (x :: rest) s)) := by
      intro h
      rw [nxt pre x (by omega)]
      refine Eq.trans ih ?_
      congr 1
      rw [decide_eq_decide, hc]
      exact ⟨.inr, fun k => k.resolve_left h⟩
    rw [span_Covers.l0, if_pos (pos pre rest x), if_pos (by omega), if_pos (pos pre rest x), rdS]
    unfold Rt at hs
    by_cases h1 : x.f0 = s.f0
    · rw [both_same x s h1, Option.bind_some]
      by_cases h2 : x.f1 ≤ s.f1 ∧ s.f2 ≤ x.f2
      · have e : (x.f0 == s.f0 && (mx x.f1 s.f1 == s.f1 && mn x.f2 s.f2 == s.f2)) = true := by
          simp only [Bool.and_eq_true, beq_iff_eq]
          unfold mx mn
          refine ⟨h1, ?_, ?_⟩
          · split <;> omega
          · split <;> omega
        rw [if_pos e, decide_eq_true (hc.2 (.inl ⟨h1, h2⟩))]
      · have e : ¬ (x.f0 == s.f0 && (mx x.f1 s.f1 == s.f1 && mn x.f2 s.f2 == s.f2)) = true := by
          simp only [Bool.and_eq_true, beq_iff_eq]
          unfold mx mn
          rintro ⟨_, a, b⟩
          refine h2 ⟨?_, ?_⟩
          · split at a <;> omega
          · split at b <;> omega
        rw [if_neg e, hn (fun h => h2 h.2)]
    · rw [both_other x s h1, Option.bind_some]
      have e : ¬ (((0 : Int) == s.f0) && (((0 : Int) == s.f1) && ((0 : Int) == s.f2))) = true := by
        simp only [Bool.and_eq_true, beq_iff_eq]; omega
      rw [if_neg e, hn (fun h => h1 h.1)]
theorem covers_eq (l : List S) (s : S) (hs : Rt s) (hl : l.length ≤ 100000) {k : Nat} (hk : l.length < k) : span_Covers.f k l s.f0 s.f1 s.f2 = some (decide (Covers l s)) := covers_loop s hs l [] k (by simpa using hl) hk
theorem both_right (x s : S) (hx : Rt x) (hs : Rt s) (h : x.f0 = s.f0) : Rt ⟨x.f0, mx x.f1 s.f1, mn x.f2 s.f2⟩ ↔ x.f1 < s.f2 ∧ s.f1 < x.f2 := by
  unfold Rt mx mn at *
  dsimp only
  (repeat' split) <;> omega
theorem meets_loop (s : S) (hs : Rt s) : ∀ (rest pre : List S) (k : Nat), Cn rest → pre.length + rest.length ≤ 100000 → rest.length < k → span_Meets.l0 k (pre ++ rest) ((pre ++ rest).length : Int) (pre.length : Int) s.f0 s.f1 s.f2 = some (decide (Meets rest s))
  | [], pre, k, _, hp, hk => by
    obtain ⟨k, rfl⟩ : ∃ m, k = m + 1 := ⟨k - 1, by omega⟩
    rw [List.append_nil, span_Meets.l0, if_neg (by omega), decide_eq_false (by simp [Meets])]
  | x :: rest, pre, k, hcn, hp, hk => by
    rw [List.length_cons] at hp hk
    obtain ⟨k, rfl⟩ : ∃ m, k = m + 1 := ⟨k - 1, by omega⟩
    have ih := meets_loop s hs rest (pre ++ [x]) k hcn.2.2 (by simp; omega) (by omega)
    rw [List.append_assoc pre] at ih
    have hc : Meets (x :: rest) s ↔ (x.f0 = s.f0 ∧ x.f1 < s.f2 ∧ s.f1 < x.f2) ∨ Meets rest s := by simp [Meets]
    have hn : ¬ (x.f0 = s.f0 ∧ x.f1 < s.f2 ∧ s.f1 < x.f2) → span_Meets.l0 k (pre ++ x :: rest) ((pre ++ x :: rest).length : Int) (wrap64 ((pre.length : Int) + 1)) s.f0 s.f1 s.f2 = some (decide (Meets (x :: rest) s)) := by
      intro h
      rw [nxt pre x (by omega)]
      refine Eq.trans ih ?_
      congr 1
      rw [decide_eq_decide, hc]
      exact ⟨.inr, fun k => k.resolve_left h⟩
    rw [span_Meets.l0, if_pos (pos pre rest x), if_pos (by omega), if_pos (pos pre rest x), rdS]
    by_cases h1 : x.f0 = s.f0
    · rw [both_same x s h1, Option.bind_some, right3, Option.bind_some]
      by_cases h2 : x.f1 < s.f2 ∧ s.f1 < x.f2
      · rw [decide_eq_true ((both_right x s hcn.1 hs h1).2 h2), if_pos rfl, decide_eq_true (hc.2 (.inl ⟨h1, h2⟩))]
      · rw [decide_eq_false (fun h => h2 ((both_right x s hcn.1 hs h1).1 h)), if_neg (by decide), hn (fun h => h2 h.2)]
    · rw [both_other x s h1, Option.bind_some, right3, Option.bind_some, decide_eq_false (show ¬ Rt ⟨0, 0, 0⟩ by unfold Rt; simp), if_neg (by decide), hn (fun h => h1 h.1)]
theorem meets_eq (l : List S) (s : S) (hc : Cn l) (hs : Rt s) (hl : l.length ≤ 100000) {k : Nat} (hk : l.length < k) : span_Meets.f k l s.f0 s.f1 s.f2 = some (decide (Meets l s)) := meets_loop s hs l [] k hc (by simpa using hl) hk
end Go.Proofs.Ytjlbgopgeepiaaa.LemSpanFoConf
set_option linter.unusedVariables false
set_option linter.unusedSimpArgs false
namespace Go.Proofs.Ytjlbgopgeepiaaa.LemSpanFqConf
open Go.RowKit Go.Proofs.Ytjlbgopgeepiaaa.PConf Go.Proofs.YtjlbgopgeepiaaaW.PrintWords Go.Proofs.YtjlbgopgeepiaaaW.PrintLast Go.Proofs.YtjlbgopgeepiaaaW.PrintMore Go.Proofs.Ytjlbgopgeepiaaa.Num Go.Proofs.Ytjlbgopgeepiaaa.LemSpanConf Go.Proofs.Ytjlbgopgeepiaaa.LemWithinConf Go.Proofs.Ytjlbgopgeepiaaa.LemSpanFnConf Go.Proofs.Ytjlbgopgeepiaaa.LemSpanFmConf Go.Proofs.Ytjlbgopgeepiaaa.LemSpanFoConf
theorem refcovers_loop (s : S) : ∀ (rest pre : List S) (k : Nat), pre.length + rest.length ≤ 100000 → rest.length < k → busbarref12_Covers.l0 k (pre ++ rest) (pre.length : Int) s.f0 s.f1 s.f2 = some (decide (Covers rest s))
  | [], pre, k, hp, hk => by
    obtain ⟨k, rfl⟩ : ∃ m, k = m + 1 := ⟨k - 1, by omega⟩
    rw [List.append_nil, busbarref12_Covers.l0, if_neg (by omega), decide_eq_false (by simp [Covers])]
  | x :: rest, pre, k, hp, hk => by
    rw [List.length_cons] at hp hk
    obtain ⟨k, rfl⟩ : ∃ m, k = m + 1 := ⟨k - 1, by omega⟩
    have ih := refcovers_loop s rest (pre ++ [x]) k (by simp; omega) (by omega)
    rw [List.append_assoc pre] at ih
    have hc : Covers (x :: rest) s ↔ (x.f0 = s.f0 ∧ x.f1 ≤ s.f1 ∧ s.f2 ≤ x.f2) ∨ Covers rest s := by simp [Covers]
    have hn : ¬ (x.f0 = s.f0 ∧ x.f1 ≤ s.f1 ∧ s.f2 ≤ x.f2) → busbarref12_Covers.l0 k (pre ++ x :: rest) (wrap64 ((pre.length : Int) + 1)) s.f0 s.f1 s.f2 = some (decide (Covers (x :: rest) s)) := by
      intro h
      rw [nxt pre x (by omega)]
      refine Eq.trans ih ?_
      congr 1
      rw [decide_eq_decide, hc]
      exact ⟨.inr, fun k => k.resolve_left h⟩
    rw [busbarref12_Covers.l0, if_pos (pos pre rest x), if_pos (by omega), rdS]
    by_cases h1 : x.f0 = s.f0
    · rw [if_pos h1]
      by_cases h2 : x.f1 ≤ s.f1
      · rw [if_pos h2]
        by_cases h3 : s.f2 ≤ x.f2
        · rw [if_pos h3, decide_eq_true (hc.2 (.inl ⟨h1, h2, h3⟩))]
        · rw [if_neg h3, hn (fun h => h3 h.2.2)]
      · rw [if_neg h2, hn (fun h => h2 h.2.1)]
    · rw [if_neg h1, hn (fun h => h1 h.1)]
theorem refcovers_eq (l : List S) (s : S) (hl : l.length ≤ 100000) {k : Nat} (hk : l.length < k) : busbarref12_Covers.f k l s.f0 s.f1 s.f2 = some (decide (Covers l s)) := refcovers_loop s l [] k (by simpa using hl) hk
theorem refmeets_loop (s : S) : ∀ (rest pre : List S) (k : Nat), pre.length + rest.length ≤ 100000 → rest.length < k → busbarref12_Meets.l0 k (pre ++ rest) (pre.length : Int) s.f0 s.f1 s.f2 = some (decide (Meets rest s))
  | [], pre, k, hp, hk => by
    obtain ⟨k, rfl⟩ : ∃ m, k = m + 1 := ⟨k - 1, by omega⟩
    rw [List.append_nil, busbarref12_Meets.l0, if_neg (by omega), decide_eq_false (by simp [Meets])]
  | x :: rest, pre, k, hp, hk => by
    rw [List.length_cons] at hp hk
    obtain ⟨k, rfl⟩ : ∃ m, k = m + 1 := ⟨k - 1, by omega⟩
    have ih := refmeets_loop s rest (pre ++ [x]) k (by simp; omega) (by omega)
    rw [List.append_assoc pre] at ih
    have hc : Meets (x :: rest) s ↔ (x.f0 = s.f0 ∧ x.f1 < s.f2 ∧ s.f1 < x.f2) ∨ Meets rest s := by simp [Meets]
    have hn : ¬ (x.f0 = s.f0 ∧ x.f1 < s.f2 ∧ s.f1 < x.f2) → busbarref12_Meets.l0 k (pre ++ x :: rest) (wrap64 ((pre.length : Int) + 1)) s.f0 s.f1 s.f2 = some (decide (Meets (x :: rest) s)) := by
      intro h
      rw [nxt pre x (by omega)]
      refine Eq.trans ih ?_
      congr 1
      rw [decide_eq_decide, hc]
      exact ⟨.inr, fun k => k.resolve_left h⟩
    rw [busbarref12_Meets.l0, if_pos (pos pre rest x), if_pos (by omega), rdS]
    by_cases h1 : x.f0 = s.f0
    · rw [if_pos h1]
      by_cases h2 : x.f1 < s.f2
      · rw [if_pos h2]
        by_cases h3 : s.f1 < x.f2
        · rw [if_pos h3, decide_eq_true (hc.2 (.inl ⟨h1, h2, h3⟩))]
        · rw [if_neg h3, hn (fun h => h3 h.2.2)]
      · rw [if_neg h2, hn (fun h => h2 h.2.1)]
    · rw [if_neg h1, hn (fun h => h1 h.1)]
theorem refmeets_eq (l : List S) (s : S) (hl : l.length ≤ 100000) {k : Nat} (hk : l.length < k) : busbarref12_Meets.f k l s.f0 s.f1 s.f2 = some (decide (Meets l s)) := refmeets_loop s l [] k (by simpa using hl) hk
end Go.Proofs.Ytjlbgopgeepiaaa.LemSpanFqConf
set_option linter.unusedVariables false
set_option linter.unusedSimpArgs false
namespace Go.Proofs.Ytjlbgopgeepiaaa.LemCheckConf
open Go.RowKit Go.Proofs.Ytjlbgopgeepiaaa.PConf Go.Proofs.YtjlbgopgeepiaaaW.PrintWords Go.Proofs.YtjlbgopgeepiaaaW.PrintLast Go.Proofs.YtjlbgopgeepiaaaW.PrintMore Go.Proofs.Ytjlbgopgeepiaaa.Num Go.Proofs.Ytjlbgopgeepiaaa.LemSpanConf Go.Proofs.Ytjlbgopgeepiaaa.LemSpanFnConf Go.Proofs.Ytjlbgopgeepiaaa.LemSpanFmConf Go.Proofs.Ytjlbgopgeepiaaa.LemSpanFoConf Go.Proofs.Ytjlbgopgeepiaaa.LemSpanFqConf Go.Proofs.Ytjlbgopgeepiaaa.LemCanonConf
theorem rest_all (l : List S) : ∀ (d i : Nat), rest l d i = true → ∀ j, i ≤ j → j < i + d → Rt (rd_T46 l (j : Int)) ∧ (j = 0 ∨ Ah (rd_T46 l ((j : Int) - 1)) (rd_T46 l (j : Int)))
  | 0, i, _, j, h1, h2 => absurd h2 (by omega)
  | d + 1, i, h, j, h1, h2 => by
    unfold rest at h
    simp only [Bool.and_eq_true, Bool.or_eq_true, decide_eq_true_eq] at h
    rcases Nat.lt_or_ge i j with h3 | h3
    · exact rest_all l d (i + 1) h.2 j (by omega) (by omega)
    · obtain rfl : j = i := by omega
      exact h.1
theorem rd_get (l : List S) (i : Nat) (h : i < l.length) : rd_T46 l (i : Int) = l[i] := by
  unfold rd_T46
  rw [Int.toNat_natCast, List.getD_eq_getElem?_getD, List.getElem?_eq_getElem h]
  rfl
theorem can_of : ∀ (l : List S), (∀ i (h : i < l.length), Rt l[i]) → (∀ i (h : i + 1 < l.length), Ah l[i] l[i + 1]) → Cn l
  | [], _, _ => trivial
  | x :: l, h1, h2 => by
    have hc := can_of l (fun i h => h1 (i + 1) (by simpa using h)) (fun i h => h2 (i + 1) (by simpa using h))
    refine ⟨h1 0 (by simp), fun y hy => ?_, hc⟩
    match l, hc, hy, h1, h2 with
    | z :: l', hc, hy, h1, h2 =>
      have hz : Ah x z := h2 0 (by simp)
      rcases List.mem_cons.1 hy with rfl | hy
      · exact hz
      · exact Ah_trans hc.1 hz (hc.2.1 y hy)
theorem rest_can (l : List S) (h : rest l l.length 0 = true) : Cn l := by
  refine can_of l (fun i hi => ?_) (fun i hi => ?_)
  · have := (rest_all l _ _ h i (by omega) (by omega)).1
    rwa [rd_get l i hi] at this
  · have := (rest_all l _ _ h (i + 1) (by omega) (by omega)).2
    rcases this with h0 | h0
    · omega
    · rw [rd_get l (i + 1) hi, show (((i + 1 : Nat) : Int) - 1) = (i : Int) by omega, rd_get l i (by omega)] at h0
      exact h0
def ctlw (w : Int) : S := ⟨2, w, w + 8⟩
def chk (m : List S) (w : Int) : Int := if w < 0 ∨ 65528 < w then 1 else if rest m m.length 0 = true then (if Meets m (ctlw w) then 6 else 0) else 2
theorem ctlw_rt (w : Int) (h0 : 0 ≤ w) (h1 : w ≤ 65528) : Rt (ctlw w) := by unfold Rt ctlw; dsimp only; omega
theorem check_any (m : List S) (w : Int) (hl : m.length ≤ 100000) {k : Nat} (hk : m.length + 2 < k) : plan_Check.f k m w = some (chk m w) := by
  obtain ⟨k, rfl⟩ : ∃ j, k = j + 1 := ⟨k - 1, by omega⟩
  have hj : plan_Check.j0 (k + 1) m w true = some 1 := by rw [plan_Check.j0, if_pos rfl]
  unfold plan_Check.f chk
  by_cases h0 : w < 0
  · rw [if_pos h0, hj, if_pos (.inl h0)]
  · rw [if_neg h0]
    by_cases h1 : w > 65528
    · rw [decide_eq_true h1, hj, if_pos (.inr h1)]
    · rw [decide_eq_false h1, plan_Check.j0, if_neg (by decide), if_neg (by omega), canon_f m hl (by omega), Option.bind_some]
      by_cases hc : rest m m.length 0 = true
      · rw [if_pos hc, if_pos hc]
        unfold plan_control.f
        rw [Option.bind_some, wrap64_id (by omega) (by omega)]
        have e := meets_eq m (ctlw w) (rest_can m hc) (ctlw_rt w (by omega) (by omega)) hl (k := k) (by omega)
        refine (congrArg (fun z => Option.bind z _) e).trans ?_
        rw [Option.bind_some]
        by_cases h : Meets m (ctlw w)
        · rw [decide_eq_true h, if_pos rfl, if_pos h]
        · rw [decide_eq_false h, if_neg (by decide), if_neg h]
      · rw [if_neg hc, if_neg hc]
theorem refplan_any (m : List S) (w : Int) (hl : m.length ≤ 100000) {k : Nat} (hk : m.length + 2 < k) : busbarref12_Plan.f k m w = some (chk m w) := by
  obtain ⟨k, rfl⟩ : ∃ j, k = j + 1 := ⟨k - 1, by omega⟩
  have hj : busbarref12_Plan.j0 (k + 1) m w true = some 1 := by rw [busbarref12_Plan.j0, if_pos rfl]
  unfold busbarref12_Plan.f chk
  by_cases h0 : w < 0
  · rw [if_pos h0, hj, if_pos (.inl h0)]
  · rw [if_neg h0]
    by_cases h1 : w > 65528
    · rw [decide_eq_true h1, hj, if_pos (.inr h1)]
    · rw [decide_eq_false h1, busbarref12_Plan.j0, if_neg (by decide), if_neg (by omega), refcanon_f m hl (by omega), Option.bind_some]
      by_cases hc : rest m m.length 0 = true
      · rw [if_pos hc, if_pos hc]
        unfold busbarref12_control.f
        rw [Option.bind_some, wrap64_id (by omega) (by omega)]
        have e := refmeets_eq m (ctlw w) hl (k := k) (by omega)
        refine (congrArg (fun z => Option.bind z _) e).trans ?_
        rw [Option.bind_some]
        by_cases h : Meets m (ctlw w)
        · rw [decide_eq_true h, if_pos rfl, if_pos h]
        · rw [decide_eq_false h, if_neg (by decide), if_neg h]
      · rw [if_neg hc, if_neg hc]
end Go.Proofs.Ytjlbgopgeepiaaa.LemCheckConf
namespace Go.Proofs.Ytjlbgopgeepiaaa.PConf
open Go.RowKit Go.Proofs.YtjlbgopgeepiaaaW.PrintWords Go.Proofs.YtjlbgopgeepiaaaW.PrintLast Go.Proofs.YtjlbgopgeepiaaaW.PrintMore
attribute [local go_sem] max2_int min2_int max_two min_two max_three min_three max_four min_four plus_setCell_drewN plus_cell_same   -- for this text's walks alone
set_option linter.unusedVariables false
set_option linter.unusedSimpArgs false
mutual
def busbarlaw14_All.l0 : Nat → List Int → List (S48) → Int → Option ((List (S48)) × (List (S46)))
 | 0, _, _, _ => none
 | k + 1, x0, x4, x5 => if x5 < 4 then (busbarlaw14_All.l1 k x0 x4 x5 0 0) else (some (x4, (([(⟨2, 0, 65536⟩ : S46), (⟨3, 0, 65536⟩ : S46)] : List (S46)))))
def busbarlaw14_All.l1 : Nat → List Int → List (S48) → Int → Int → Int → Option ((List (S48)) × (List (S46)))
 | 0, _, _, _, _, _ => none
 | k + 1, x0, x4, x5, x6, x7 => if x7 < (x0.length : Int) then (busbarlaw14_All.j2 k x0 x4 x5 x6 x7 (decide (x7 < 12))) else (busbarlaw14_All.j2 k x0 x4 x5 x6 x7 false)
def busbarlaw14_All.j2 : Nat → List Int → List (S48) → Int → Int → Int → Bool → Option ((List (S48)) × (List (S46)))
 | 0, _, _, _, _, _, _ => none
 | k + 1, x0, x4, x5, x6, x7, x20 => if x20 = true then (if 0 ≤ x7 then (if x7 < (x0.length : Int) then ((busbarlaw0_Within.f (rd x0 x7) 2).bind fun t261 => (if t261 = (wrap64 (x5 - 2)) then ((busbarlaw0_Digit.f (rd x0 x7) 2 2).bind fun t263 => (if (wrap64 (2 + (wrap64 (2 * t263)))) = 0 then (none) else ((busbarlaw0_Digit.f (rd x0 x7) 4 3).bind fun t265 => (if x4.length < 5864062014805 then (busbarlaw14_All.l1 k x0 (x4 ++ [(⟨x5, wrap64 ((wrap64 ((wrap64 (Int.tdiv (wrap64 ((wrap64 (x6 + (wrap64 (2 + (wrap64 (2 * t263)))))) - 1)) (wrap64 (2 + (wrap64 (2 * t263)))))) * (wrap64 (2 + (wrap64 (2 * t263)))))) + (wrap64 ((wrap64 (2 + (wrap64 (2 * t263)))) * t265))), wrap64 (2 + (wrap64 (2 * t263)))⟩ : S48)]) x5 (wrap64 ((wrap64 ((wrap64 ((wrap64 (Int.tdiv (wrap64 ((wrap64 (x6 + (wrap64 (2 + (wrap64 (2 * t263)))))) - 1)) (wrap64 (2 + (wrap64 (2 * t263)))))) * (wrap64 (2 + (wrap64 (2 * t263)))))) + (wrap64 ((wrap64 (2 + (wrap64 (2 * t263)))) * t265)))) + (wrap64 (2 + (wrap64 (2 * t263)))))) (wrap64 (x7 + 1))) else (none))))) else (busbarlaw14_All.l1 k x0 x4 x5 x6 (wrap64 (x7 + 1))))) else (none)) else (none)) else (busbarlaw14_All.l0 k x0 x4 (wrap64 (x5 + 1)))
end
def busbarlaw14_All.f (k : Nat) (l0 : List Int) : Option ((List (S48)) × (List (S46))) := busbarlaw14_All.l0 k l0 ([] : List (S48)) 2
theorem busbarlaw14_All.mono_l : ∀ k, (∀ y0 y1 y2, LeO (busbarlaw14_All.l0 k y0 y1 y2) (busbarlaw14_All.l0 (k + 1) y0 y1 y2)) ∧ (∀ y0 y1 y2 y3 y4, LeO (busbarlaw14_All.l1 k y0 y1 y2 y3 y4) (busbarlaw14_All.l1 (k + 1) y0 y1 y2 y3 y4)) ∧ (∀ y0 y1 y2 y3 y4 y5, LeO (busbarlaw14_All.j2 k y0 y1 y2 y3 y4 y5) (busbarlaw14_All.j2 (k + 1) y0 y1 y2 y3 y4 y5))
 | 0 => ⟨fun _ _ _ r h => by simp [busbarlaw14_All.l0] at h, fun _ _ _ _ _ r h => by simp [busbarlaw14_All.l1] at h, fun _ _ _ _ _ _ r h => by simp [busbarlaw14_All.j2] at h⟩
 | k + 1 => by
  obtain ⟨ih0, ih1, ih2⟩ := busbarlaw14_All.mono_l k
  refine ⟨?_, ?_, ?_⟩
  ·
   intro y0 y1 y2
   unfold busbarlaw14_All.l0
   repeat' first
   | (with_reducible exact ih0 _ _ _)
   | (with_reducible exact ih1 _ _ _ _ _)
   | (with_reducible exact ih2 _ _ _ _ _ _)
   | (with_reducible exact LeO.refl _)
   | (with_reducible exact LeO.none _)
   | (with_reducible refine LeO.ite ?_ ?_)
   | (with_reducible refine LeO.bind ?_ (fun _ => ?_))
   | exact ih0 _ _ _
   | exact ih1 _ _ _ _ _
   | exact ih2 _ _ _ _ _ _
   | exact LeO.none _
   | refine LeO.ite ?_ ?_
   | refine LeO.bind ?_ (fun _ => ?_)
  ·
   intro y0 y1 y2 y3 y4
   unfold busbarlaw14_All.l1
   repeat' first
   | (with_reducible exact ih0 _ _ _)
   | (with_reducible exact ih1 _ _ _ _ _)
   | (with_reducible exact ih2 _ _ _ _ _ _)
   | (with_reducible exact LeO.refl _)
   | (with_reducible exact LeO.none _)
   | (with_reducible refine LeO.ite ?_ ?_)
   | (with_reducible refine LeO.bind ?_ (fun _ => ?_))
   | exact ih0 _ _ _
   | exact ih1 _ _ _ _ _
   | exact ih2 _ _ _ _ _ _
   | exact LeO.none _
   | refine LeO.ite ?_ ?_
   | refine LeO.bind ?_ (fun _ => ?_)
  ·
   intro y0 y1 y2 y3 y4 y5
   unfold busbarlaw14_All.j2
   repeat' first
   | (with_reducible exact ih0 _ _ _)
   | (with_reducible exact ih1 _ _ _ _ _)
   | (with_reducible exact ih2 _ _ _ _ _ _)
   | (with_reducible exact LeO.refl _)
   | (with_reducible exact LeO.none _)
   | (with_reducible refine LeO.ite ?_ ?_)
   | (with_reducible refine LeO.bind ?_ (fun _ => ?_))
   | exact ih0 _ _ _
   | exact ih1 _ _ _ _ _
   | exact ih2 _ _ _ _ _ _
   | exact LeO.none _
   | refine LeO.ite ?_ ?_
   | refine LeO.bind ?_ (fun _ => ?_)
theorem busbarlaw14_All.mono : ∀ a0 k, LeO (busbarlaw14_All.f k a0) (busbarlaw14_All.f (k + 1) a0) := by
 intro a0 k
 obtain ⟨ih0, ih1, ih2⟩ := busbarlaw14_All.mono_l k
 unfold busbarlaw14_All.f
 repeat' first
   | (with_reducible exact ih0 _ _ _)
   | (with_reducible exact ih1 _ _ _ _ _)
   | (with_reducible exact ih2 _ _ _ _ _ _)
   | (with_reducible exact LeO.refl _)
   | (with_reducible exact LeO.none _)
   | (with_reducible refine LeO.ite ?_ ?_)
   | (with_reducible refine LeO.bind ?_ (fun _ => ?_))
   | exact ih0 _ _ _
   | exact ih1 _ _ _ _ _
   | exact ih2 _ _ _ _ _ _
   | exact LeO.none _
   | refine LeO.ite ?_ ?_
   | refine LeO.bind ?_ (fun _ => ?_)
set_option maxHeartbeats 8000000 in
set_option maxRecDepth 100000 in
theorem busbarlaw14_All.calls (k : Nat) (A0 : Option Addr) (c0 : Nat) (l0 : List Int) (r1 : List (S48)) (r2 : List (S46)) (w : World) (hr0 : Kd.C (Kd.int .i64) w A0 l0.length l0) (hc0 : l0.length ≤ c0) (h : busbarlaw14_All.f k l0 = some (r1, r2)) :
  Calls Try.prog 15 #[.slice A0 l0.length c0] w fun e w' => ∃ v0_ v1_ : Value, e = .returned (.tuple #[v0_, v1_]) ∧ Kd.R k48 48 w' w.heap.size (fun _ => True) v0_ r1 ∧ Kd.R k46 46 w' w.heap.size (fun _ => True) v1_ r2 ∧ Below w.heap.size w w' := by
 have hu48 := Try.underlying48
 have hu46 := Try.underlying46
 have HR0 := Aside0.mk hr0
 have HC0 := Aside0.mk hc0
 clear hr0 hc0
 have HB := Aside0.mk (Below.refl w.heap.size w)
 have H : (busbarlaw14_All.l0 k l0 ([] : List (S48)) 2) = some (r1, r2) := h
 clear h
 have H' := Aside0.mk H
 clear H
 go_enter Try.func15, Try.ntmps15
 go_wp2
 go_loopg [4, 5] k (fun kq v4 v5 w' => ∃ (x4_1 : List (S48)) (x5_1 : Int), v5 = .int .i64 x5_1 ∧ Aside0 (busbarlaw14_All.l0 kq l0 x4_1 x5_1 = some (r1, r2)) ∧ Aside0 (kq ≤ k) ∧ Aside0 (Kd.R k48 48 w' w.heap.size (fun _ => True) v4 x4_1) ∧ Aside0 (Below w.heap.size w w'))
 case atStart => exact ⟨(([] : List (S48))), (2), (by first | rfl | (simp; done) | (simp [*]; done)), H', ⟨Nat.le_refl _⟩, ⟨by first | exact Kd.R_nil _ _ _ _ _ | exact Kd.N_nil _ _ _ _ _ | exact Kd.V_nil _ _ _ _ _ | exact Kd.Q_nil _ _ _ _ _ | exact Kd.S_nil _ _ _ _ _⟩, ⟨by repeat (first | (with_reducible first | exact HB.out | apply below_alloc | apply pw_below_drewN | apply below_drew1) | exact HB.out)⟩⟩
 case round =>
  clear H'
  try clear c1
  obtain ⟨x4_1, x5_1, rfl, HA, HK1, HO_4, HB⟩ := hrel
  cases gk with
  | zero => exact absurd HA.out (by simp [busbarlaw14_All.l0])
  | succ k1 =>
   have H := HA.out
   clear HA
   simp only [busbarlaw14_All.l0] at H
   by_cases c2 : x5_1 < 4
   ·
    rw [if_pos c2] at H
    have c2b0 : decide (x5_1 < 4) = true := decide_eq_true c2
    clear c2
    have H' := Aside0.mk H
    clear H
    go_wp2
    go_loopg [4, 6, 7] k1 (fun kq v4 v6 v7 w' => ∃ (x4_2 : List (S48)) (x6_2 : Int) (x7_2 : Int), v6 = .int .i64 x6_2 ∧ v7 = .int .i64 x7_2 ∧ Aside0 (busbarlaw14_All.l1 kq l0 x4_2 x5_1 x6_2 x7_2 = some (r1, r2)) ∧ Aside0 (kq ≤ k1) ∧ Aside0 (Kd.R k48 48 w' w.heap.size (fun _ => True) v4 x4_2) ∧ Aside0 (Below w.heap.size w w'))
    case atStart => exact ⟨(x4_1), (0), (0), (by first | rfl | (simp; done) | (simp [*]; done)), (by first | rfl | (simp; done) | (simp [*]; done)), H', ⟨Nat.le_refl _⟩, ⟨by (with_reducible repeat (first | apply Kd.R_alloc | apply Kd.R_drewN | apply Kd.R_drew)); exact HO_4.out⟩, ⟨by repeat (first | (with_reducible first | exact HB.out | apply below_alloc | apply pw_below_drewN | apply below_drew1) | exact HB.out)⟩⟩
    case round =>
     clear H'
     try clear c1
     try clear c2
     try clear c2b0
     try clear p2
     obtain ⟨x4_2, x6_2, x7_2, rfl, rfl, HA, HK2, HO_4, HB⟩ := hrel
     cases gk with
     | zero => exact absurd HA.out (by simp [busbarlaw14_All.l1])
     | succ k2 =>
      have H := HA.out
      clear HA
      simp only [busbarlaw14_All.l1] at H
      have HC3 := Aside0.mk H
      clear H
      go_upto_region 7 with (fail)
      go_cut [20] (fun v20 wc => ∃ (kq : Nat) (x20_2 : Bool), v20 = .bool x20_2 ∧ Aside0 (busbarlaw14_All.j2 kq l0 x4_2 x5_1 x6_2 x7_2 x20_2 = some (r1, r2)) ∧ Aside0 (kq ≤ k2) ∧ Aside0 (Kd.R k48 48 wc w.heap.size (fun _ => True) u4 x4_2) ∧ Aside0 (Below w.heap.size w wc))
      case first =>
       have H := HC3.out
       clear HC3
       by_cases c4 : x7_2 < (l0.length : Int)
       ·
        rw [if_pos c4] at H
        have c4b0 : decide (x7_2 < (l0.length : Int)) = true := decide_eq_true c4
        clear c4
        (first | rw [c4b0] | (simp only [i64_w, i32_w]; rw [c4b0]) | skip)
        have H' := Aside0.mk H
        clear H
        go_wp2
        go_meet
        case rel => exact ⟨_, (decide (x7_2 < 12)), (by first | rfl | (simp; done) | (simp [*]; done)), H', ⟨by have := HK1.out; have := HK2.out; first | omega | exact Nat.le_refl _⟩, ⟨by (with_reducible repeat (first | apply Kd.R_alloc | apply Kd.R_drewN | apply Kd.R_drew)); exact HO_4.out⟩, ⟨by repeat (first | (with_reducible first | exact HB.out | apply below_alloc | apply pw_below_drewN | apply below_drew1) | exact HB.out)⟩⟩
       ·
        rw [if_neg c4] at H
        have c4b0 : decide (x7_2 < (l0.length : Int)) = false := decide_eq_false c4
        clear c4
        (first | rw [c4b0] | (simp only [i64_w, i32_w]; rw [c4b0]) | skip)
        have H' := Aside0.mk H
        clear H
        go_wp2
        go_meet
        case rel => exact ⟨_, (false), (by first | rfl | (simp; done) | (simp [*]; done)), H', ⟨by have := HK1.out; have := HK2.out; first | omega | exact Nat.le_refl _⟩, ⟨by (with_reducible repeat (first | apply Kd.R_alloc | apply Kd.R_drewN | apply Kd.R_drew)); exact HO_4.out⟩, ⟨by repeat (first | (with_reducible first | exact HB.out | apply below_alloc | apply pw_below_drewN | apply below_drew1) | exact HB.out)⟩⟩
      case rest =>
       clear HC3
       try clear c1
       try clear c2
       try clear c2b0
       try clear p2
       try clear c4
       try clear c4b0
       try clear p2
       obtain ⟨kq, x20_2, rfl, HA, HJ2, HO_4, HB⟩ := hcut
       cases kq with
       | zero => exact absurd HA.out (by simp [busbarlaw14_All.j2])
       | succ kj2 =>
        have H := HA.out
        clear HA
        simp only [busbarlaw14_All.j2] at H
        by_cases c5 : x20_2 = true
        ·
         subst c5
         have H1 : (if 0 ≤ x7_2 then (if x7_2 < (l0.length : Int) then ((busbarlaw0_Within.f (rd l0 x7_2) 2).bind fun t261 => (if t261 = (wrap64 (x5_1 - 2)) then ((busbarlaw0_Digit.f (rd l0 x7_2) 2 2).bind fun t263 => (if (wrap64 (2 + (wrap64 (2 * t263)))) = 0 then (none) else ((busbarlaw0_Digit.f (rd l0 x7_2) 4 3).bind fun t265 => (if x4_2.length < 5864062014805 then (busbarlaw14_All.l1 kj2 l0 (x4_2 ++ [(⟨x5_1, wrap64 ((wrap64 ((wrap64 (Int.tdiv (wrap64 ((wrap64 (x6_2 + (wrap64 (2 + (wrap64 (2 * t263)))))) - 1)) (wrap64 (2 + (wrap64 (2 * t263)))))) * (wrap64 (2 + (wrap64 (2 * t263)))))) + (wrap64 ((wrap64 (2 + (wrap64 (2 * t263)))) * t265))), wrap64 (2 + (wrap64 (2 * t263)))⟩ : S48)]) x5_1 (wrap64 ((wrap64 ((wrap64 ((wrap64 (Int.tdiv (wrap64 ((wrap64 (x6_2 + (wrap64 (2 + (wrap64 (2 * t263)))))) - 1)) (wrap64 (2 + (wrap64 (2 * t263)))))) * (wrap64 (2 + (wrap64 (2 * t263)))))) + (wrap64 ((wrap64 (2 + (wrap64 (2 * t263)))) * t265)))) + (wrap64 (2 + (wrap64 (2 * t263)))))) (wrap64 (x7_2 + 1))) else (none))))) else (busbarlaw14_All.l1 kj2 l0 x4_2 x5_1 x6_2 (wrap64 (x7_2 + 1))))) else (none)) else (none)) = some (r1, r2) := by rw [if_pos rfl] at H; exact H
         clear H
         have H := H1
         clear H1
         by_cases c6 : 0 ≤ x7_2
         ·
          rw [if_pos c6] at H
          have c6b0 : decide (0 ≤ x7_2) = true := decide_eq_true c6
          clear c6
          by_cases c7 : x7_2 < (l0.length : Int)
          ·
           rw [if_pos c7] at H
           have c7b0 : decide (x7_2 < (l0.length : Int)) = true := decide_eq_true c7
           clear c7
           replace H := Option.bind_eq_some_iff.mp H
           obtain ⟨t261, A80, H⟩ := H
           replace H : (if t261 = (wrap64 (x5_1 - 2)) then ((busbarlaw0_Digit.f (rd l0 x7_2) 2 2).bind fun t263 => (if (wrap64 (2 + (wrap64 (2 * t263)))) = 0 then (none) else ((busbarlaw0_Digit.f (rd l0 x7_2) 4 3).bind fun t265 => (if x4_2.length < 5864062014805 then (busbarlaw14_All.l1 kj2 l0 (x4_2 ++ [(⟨x5_1, wrap64 ((wrap64 ((wrap64 (Int.tdiv (wrap64 ((wrap64 (x6_2 + (wrap64 (2 + (wrap64 (2 * t263)))))) - 1)) (wrap64 (2 + (wrap64 (2 * t263)))))) * (wrap64 (2 + (wrap64 (2 * t263)))))) + (wrap64 ((wrap64 (2 + (wrap64 (2 * t263)))) * t265))), wrap64 (2 + (wrap64 (2 * t263)))⟩ : S48)]) x5_1 (wrap64 ((wrap64 ((wrap64 ((wrap64 (Int.tdiv (wrap64 ((wrap64 (x6_2 + (wrap64 (2 + (wrap64 (2 * t263)))))) - 1)) (wrap64 (2 + (wrap64 (2 * t263)))))) * (wrap64 (2 + (wrap64 (2 * t263)))))) + (wrap64 ((wrap64 (2 + (wrap64 (2 * t263)))) * t265)))) + (wrap64 (2 + (wrap64 (2 * t263)))))) (wrap64 (x7_2 + 1))) else (none))))) else (busbarlaw14_All.l1 kj2 l0 x4_2 x5_1 x6_2 (wrap64 (x7_2 + 1)))) = some (r1, r2) := H
           have A8 := Aside0.mk A80
           clear A80
           by_cases c9 : t261 = (wrap64 (x5_1 - 2))
           ·
            rw [if_pos c9] at H
            have c9b0 : (t261 == (wrap64 (x5_1 - 2))) = true := beq_iff_eq.mpr c9
            have c9b1 : (t261 != (wrap64 (x5_1 - 2))) = false := bne_eq_false_iff_eq.mpr c9
            clear c9
            replace H := Option.bind_eq_some_iff.mp H
            obtain ⟨t263, A100, H⟩ := H
            replace H : (if (wrap64 (2 + (wrap64 (2 * t263)))) = 0 then (none) else ((busbarlaw0_Digit.f (rd l0 x7_2) 4 3).bind fun t265 => (if x4_2.length < 5864062014805 then (busbarlaw14_All.l1 kj2 l0 (x4_2 ++ [(⟨x5_1, wrap64 ((wrap64 ((wrap64 (Int.tdiv (wrap64 ((wrap64 (x6_2 + (wrap64 (2 + (wrap64 (2 * t263)))))) - 1)) (wrap64 (2 + (wrap64 (2 * t263)))))) * (wrap64 (2 + (wrap64 (2 * t263)))))) + (wrap64 ((wrap64 (2 + (wrap64 (2 * t263)))) * t265))), wrap64 (2 + (wrap64 (2 * t263)))⟩ : S48)]) x5_1 (wrap64 ((wrap64 ((wrap64 ((wrap64 (Int.tdiv (wrap64 ((wrap64 (x6_2 + (wrap64 (2 + (wrap64 (2 * t263)))))) - 1)) (wrap64 (2 + (wrap64 (2 * t263)))))) * (wrap64 (2 + (wrap64 (2 * t263)))))) + (wrap64 ((wrap64 (2 + (wrap64 (2 * t263)))) * t265)))) + (wrap64 (2 + (wrap64 (2 * t263)))))) (wrap64 (x7_2 + 1))) else (none)))) = some (r1, r2) := H
            have A10 := Aside0.mk A100
            clear A100
            by_cases c11 : (wrap64 (2 + (wrap64 (2 * t263)))) = 0
            ·
             rw [if_pos c11] at H
             exact absurd H (by simp)
            ·
             rw [if_neg c11] at H
             have c11b0 : ((wrap64 (2 + (wrap64 (2 * t263)))) == 0) = false := beq_eq_false_iff_ne.mpr c11
             have c11b1 : ((wrap64 (2 + (wrap64 (2 * t263)))) != 0) = true := bne_iff_ne.mpr c11
             replace H := Option.bind_eq_some_iff.mp H
             obtain ⟨t265, A120, H⟩ := H
             replace H : (if x4_2.length < 5864062014805 then (busbarlaw14_All.l1 kj2 l0 (x4_2 ++ [(⟨x5_1, wrap64 ((wrap64 ((wrap64 (Int.tdiv (wrap64 ((wrap64 (x6_2 + (wrap64 (2 + (wrap64 (2 * t263)))))) - 1)) (wrap64 (2 + (wrap64 (2 * t263)))))) * (wrap64 (2 + (wrap64 (2 * t263)))))) + (wrap64 ((wrap64 (2 + (wrap64 (2 * t263)))) * t265))), wrap64 (2 + (wrap64 (2 * t263)))⟩ : S48)]) x5_1 (wrap64 ((wrap64 ((wrap64 ((wrap64 (Int.tdiv (wrap64 ((wrap64 (x6_2 + (wrap64 (2 + (wrap64 (2 * t263)))))) - 1)) (wrap64 (2 + (wrap64 (2 * t263)))))) * (wrap64 (2 + (wrap64 (2 * t263)))))) + (wrap64 ((wrap64 (2 + (wrap64 (2 * t263)))) * t265)))) + (wrap64 (2 + (wrap64 (2 * t263)))))) (wrap64 (x7_2 + 1))) else (none)) = some (r1, r2) := H
             have A12 := Aside0.mk A120
             clear A120
             by_cases c13 : x4_2.length < 5864062014805
             ·
              rw [if_pos c13] at H
              have LMc13 := Aside0.mk c13
              clear c13
              obtain ⟨y266, hy266⟩ : ∃ y_ : List (S48), y_ = (x4_2 ++ [(⟨x5_1, wrap64 ((wrap64 ((wrap64 (Int.tdiv (wrap64 ((wrap64 (x6_2 + (wrap64 (2 + (wrap64 (2 * t263)))))) - 1)) (wrap64 (2 + (wrap64 (2 * t263)))))) * (wrap64 (2 + (wrap64 (2 * t263)))))) + (wrap64 ((wrap64 (2 + (wrap64 (2 * t263)))) * t265))), wrap64 (2 + (wrap64 (2 * t263)))⟩ : S48)]) := ⟨_, rfl⟩
              replace H : (busbarlaw14_All.l1 kj2 l0 y266 x5_1 (wrap64 ((wrap64 ((wrap64 ((wrap64 (Int.tdiv (wrap64 ((wrap64 (x6_2 + (wrap64 (2 + (wrap64 (2 * t263)))))) - 1)) (wrap64 (2 + (wrap64 (2 * t263)))))) * (wrap64 (2 + (wrap64 (2 * t263)))))) + (wrap64 ((wrap64 (2 + (wrap64 (2 * t263)))) * t265)))) + (wrap64 (2 + (wrap64 (2 * t263)))))) (wrap64 (x7_2 + 1))) = some (r1, r2) := by first | (rw [hy266]; with_reducible exact H) | (have H2_ := (Option.bind_some _ _).symm.trans H; rw [hy266]; with_reducible exact H2_) | (have H2_ := (Option.bind_some _ _).symm.trans H; with_reducible exact H2_) | with_reducible exact H | (rw [hy266]; exact H) | exact H
              have Ny266 := Aside0.mk hy266
              clear hy266
              have H' := Aside0.mk H
              clear H
              have p260 : 0 ≤ (x7_2 : Int) := of_decide_eq_true (by first | (with_reducible assumption) | assumption)
              have q260 : x7_2 < (l0.length : Int) := of_decide_eq_true (by first | (with_reducible assumption) | assumption)
              obtain ⟨ad260, e260, hx260_0⟩ := Kd.at_int HR0.out x7_2 p260 q260
              cases e260
              replace hx260_0 := (HB.out.cell (World.block_lt_of_cell? w _ hx260_0)).trans hx260_0
              replace p260 := eq_true p260
              replace q260 := eq_true q260
              go_wp2_with (first | ((with_reducible refine gate_callee (f := 12) rfl ?_); refine goesL_ (some 27) rfl rfl Try.func12 (by kernel_rfl) rfl #[.int .i64 (rd l0 x7_2), .int .i64 2] rfl (by (try simp only [List.map_toArray, List.map_cons, List.map_nil]); first | done | rfl | (simp only [List.length_drop, List.length_take]; rfl)) ?_; (with_reducible refine (busbarlaw0_Within.calls (rd l0 x7_2) 2 t261 _ A8.out).mono ?_); rintro e w' ⟨rfl, ⟨nd, rfl⟩⟩; refine ⟨_, rfl, ?_⟩; have p262 : 0 ≤ (x7_2 : Int) := of_decide_eq_true (by first | (with_reducible assumption) | assumption); have q262 : x7_2 < (l0.length : Int) := of_decide_eq_true (by first | (with_reducible assumption) | assumption); obtain ⟨ad262, e262, hx262_0⟩ := Kd.at_int HR0.out x7_2 p262 q262; obtain rfl : ad260 = ad262 := (by injection e262); replace hx262_0 := (HB.out.cell (World.block_lt_of_cell? w _ hx262_0)).trans hx262_0; replace p262 := eq_true p262; replace q262 := eq_true q262) | ((with_reducible refine gate_callee (f := 27) rfl ?_); refine goesL_ (some 35) rfl rfl Try.func27 (by kernel_rfl) rfl #[.int .i64 (rd l0 x7_2), .int .i64 2, .int .i64 2] rfl (by (try simp only [List.map_toArray, List.map_cons, List.map_nil]); first | done | rfl | (simp only [List.length_drop, List.length_take]; rfl)) ?_; (with_reducible refine (busbarlaw0_Digit.calls (rd l0 x7_2) 2 2 t263 _ A10.out).mono ?_); rintro e w' ⟨rfl, ⟨nd, rfl⟩⟩; refine ⟨_, rfl, ?_⟩; have p264 : 0 ≤ (x7_2 : Int) := of_decide_eq_true (by first | (with_reducible assumption) | assumption); have q264 : x7_2 < (l0.length : Int) := of_decide_eq_true (by first | (with_reducible assumption) | assumption); obtain ⟨ad264, e264, hx264_0⟩ := Kd.at_int HR0.out x7_2 p264 q264; obtain rfl : ad260 = ad264 := (by injection e264); replace hx264_0 := (HB.out.cell (World.block_lt_of_cell? w _ hx264_0)).trans hx264_0; replace p264 := eq_true p264; replace q264 := eq_true q264) | ((with_reducible refine gate_callee (f := 27) rfl ?_); refine goesL_ (some 52) rfl rfl Try.func27 (by kernel_rfl) rfl #[.int .i64 (rd l0 x7_2), .int .i64 4, .int .i64 3] rfl (by (try simp only [List.map_toArray, List.map_cons, List.map_nil]); first | done | rfl | (simp only [List.length_drop, List.length_take]; rfl)) ?_; (with_reducible refine (busbarlaw0_Digit.calls (rd l0 x7_2) 4 3 t265 _ A12.out).mono ?_); rintro e w' ⟨rfl, ⟨nd, rfl⟩⟩; refine ⟨_, rfl, ?_⟩) | ((with_reducible refine gate_builtin (b := .append) (xs := #[.tmp 55, .tmp 60]) rfl ?_); at_builtin; refine Kd.R_append k48 (w0 := w) w.heap.size rfl (.tmp 55) (.tmp 60) 23 48 (.agg #[(.int .i64 0), (.int .i64 0), (.int .i64 0)]) 24 rfl Try.underlying23 info48 rfl (by decide) (by omega) u4 x4_2 (⟨x5_1, wrap64 ((wrap64 ((wrap64 (Int.tdiv (wrap64 ((wrap64 (x6_2 + (wrap64 (2 + (wrap64 (2 * t263)))))) - 1)) (wrap64 (2 + (wrap64 (2 * t263)))))) * (wrap64 (2 + (wrap64 (2 * t263)))))) + (wrap64 ((wrap64 (2 + (wrap64 (2 * t263)))) * t265))), wrap64 (2 + (wrap64 (2 * t263)))⟩ : S48) [.int .i64 x5_1, .int .i64 (wrap64 ((wrap64 ((wrap64 (Int.tdiv (wrap64 ((wrap64 (x6_2 + (wrap64 (2 + (wrap64 (2 * t263)))))) - 1)) (wrap64 (2 + (wrap64 (2 * t263)))))) * (wrap64 (2 + (wrap64 (2 * t263)))))) + (wrap64 ((wrap64 (2 + (wrap64 (2 * t263)))) * t265)))), .int .i64 (wrap64 (2 + (wrap64 (2 * t263))))] (fun _ => True) (fun _ => False) rfl rfl ?aP (fun _ hk => hk.elim) ?aF ?aO ?aB ?aS ?aL ?_; (case aP => exact k48_mkM _ _ _ (⟨x5_1, wrap64 ((wrap64 ((wrap64 (Int.tdiv (wrap64 ((wrap64 (x6_2 + (wrap64 (2 + (wrap64 (2 * t263)))))) - 1)) (wrap64 (2 + (wrap64 (2 * t263)))))) * (wrap64 (2 + (wrap64 (2 * t263)))))) + (wrap64 ((wrap64 (2 + (wrap64 (2 * t263)))) * t265))), wrap64 (2 + (wrap64 (2 * t263)))⟩ : S48)); (case aB => exact (by repeat (first | (with_reducible first | exact HB.out | apply below_alloc | apply pw_below_drewN | apply below_drew1) | exact HB.out))); (case aF => exact (fun _ _ => trivial)); (case aO => exact (by (with_reducible repeat (first | apply Kd.R_alloc | apply Kd.R_drewN | apply Kd.R_drew)); exact HO_4.out)); (case aS => exact (below_size (by repeat (first | (with_reducible first | exact HB.out | apply below_alloc | apply pw_below_drewN | apply below_drew1) | exact HB.out)))); (case aL => have := LMc13.out; omega); intro v267 w14 ho hb hg hat; rw [← Ny266.out] at ho; have n0_ := Aside0.mk (hb); have n1_ := Aside0.mk (ho); clear HB; clear HO_4; have HB := n0_; have HO268 := n1_; clear n0_ n1_; clear ho hb hg hat))
              go_roundg kj2
              case measure => have := HK1.out; have := HK2.out; have := HJ2.out; omega
              case rel => exact ⟨(y266), (wrap64 ((wrap64 ((wrap64 ((wrap64 (Int.tdiv (wrap64 ((wrap64 (x6_2 + (wrap64 (2 + (wrap64 (2 * t263)))))) - 1)) (wrap64 (2 + (wrap64 (2 * t263)))))) * (wrap64 (2 + (wrap64 (2 * t263)))))) + (wrap64 ((wrap64 (2 + (wrap64 (2 * t263)))) * t265)))) + (wrap64 (2 + (wrap64 (2 * t263)))))), (wrap64 (x7_2 + 1)), (by first | rfl | (simp; done) | (simp [*]; done)), (by first | rfl | (simp; done) | (simp [*]; done)), H', ⟨by have := HK1.out; have := HK2.out; have := HJ2.out; omega⟩, ⟨by (with_reducible repeat (first | apply Kd.R_alloc | apply Kd.R_drewN | apply Kd.R_drew)); exact HO268.out⟩, ⟨by repeat (first | (with_reducible first | exact HB.out | apply below_alloc | apply pw_below_drewN | apply below_drew1) | exact HB.out)⟩⟩
             ·
              rw [if_neg c13] at H
              exact absurd H (by simp)
           ·
            rw [if_neg c9] at H
            have c9b0 : (t261 == (wrap64 (x5_1 - 2))) = false := beq_eq_false_iff_ne.mpr c9
            have c9b1 : (t261 != (wrap64 (x5_1 - 2))) = true := bne_iff_ne.mpr c9
            have H' := Aside0.mk H
            clear H
            have p260 : 0 ≤ (x7_2 : Int) := of_decide_eq_true (by first | (with_reducible assumption) | assumption)
            have q260 : x7_2 < (l0.length : Int) := of_decide_eq_true (by first | (with_reducible assumption) | assumption)
            obtain ⟨ad260, e260, hx260_0⟩ := Kd.at_int HR0.out x7_2 p260 q260
            cases e260
            replace hx260_0 := (HB.out.cell (World.block_lt_of_cell? w _ hx260_0)).trans hx260_0
            replace p260 := eq_true p260
            replace q260 := eq_true q260
            go_wp2_with (first | ((with_reducible refine gate_callee (f := 12) rfl ?_); refine goesL_ (some 27) rfl rfl Try.func12 (by kernel_rfl) rfl #[.int .i64 (rd l0 x7_2), .int .i64 2] rfl (by (try simp only [List.map_toArray, List.map_cons, List.map_nil]); first | done | rfl | (simp only [List.length_drop, List.length_take]; rfl)) ?_; (with_reducible refine (busbarlaw0_Within.calls (rd l0 x7_2) 2 t261 _ A8.out).mono ?_); rintro e w' ⟨rfl, ⟨nd, rfl⟩⟩; refine ⟨_, rfl, ?_⟩))
            go_roundg kj2
            case measure => have := HK1.out; have := HK2.out; have := HJ2.out; omega
            case rel => exact ⟨(x4_2), (x6_2), (wrap64 (x7_2 + 1)), (by first | rfl | (simp; done) | (simp [*]; done)), (by first | rfl | (simp; done) | (simp [*]; done)), H', ⟨by have := HK1.out; have := HK2.out; have := HJ2.out; omega⟩, ⟨by (with_reducible repeat (first | apply Kd.R_alloc | apply Kd.R_drewN | apply Kd.R_drew)); exact HO_4.out⟩, ⟨by repeat (first | (with_reducible first | exact HB.out | apply below_alloc | apply pw_below_drewN | apply below_drew1) | exact HB.out)⟩⟩
          ·
           rw [if_neg c7] at H
           exact absurd H (by simp)
         ·
          rw [if_neg c6] at H
          exact absurd H (by simp)
        ·
         replace c5 := Bool.eq_false_iff.mpr c5
         subst c5
         have H1 : (busbarlaw14_All.l0 kj2 l0 x4_2 (wrap64 (x5_1 + 1))) = some (r1, r2) := by rw [if_neg (show ¬ (false = true) by decide)] at H; exact H
         clear H
         have H := H1
         clear H1
         have H' := Aside0.mk H
         clear H
         go_wp2
         go_roundg kj2
         case measure => have := HK1.out; have := HK2.out; have := HJ2.out; omega
         case rel => exact ⟨(x4_2), (wrap64 (x5_1 + 1)), (by first | rfl | (simp; done) | (simp [*]; done)), H', ⟨by have := HK1.out; have := HK2.out; have := HJ2.out; omega⟩, ⟨by (with_reducible repeat (first | apply Kd.R_alloc | apply Kd.R_drewN | apply Kd.R_drew)); exact HO_4.out⟩, ⟨by repeat (first | (with_reducible first | exact HB.out | apply below_alloc | apply pw_below_drewN | apply below_drew1) | exact HB.out)⟩⟩
   ·
    rw [if_neg c2] at H
    have c2b0 : decide (x5_1 < 4) = false := decide_eq_false c2
    clear c2
    obtain ⟨y257, hy257⟩ : ∃ y_ : List (S46), y_ = (([(⟨2, 0, 65536⟩ : S46), (⟨3, 0, 65536⟩ : S46)] : List (S46))) := ⟨_, rfl⟩
    replace H : (some (x4_1, y257)) = some (r1, r2) := by first | (rw [hy257]; with_reducible exact H) | (have H2_ := (Option.bind_some _ _).symm.trans H; rw [hy257]; with_reducible exact H2_) | (have H2_ := (Option.bind_some _ _).symm.trans H; with_reducible exact H2_) | with_reducible exact H | (rw [hy257]; exact H) | exact H
    have Ny257 := Aside0.mk hy257
    clear hy257
    simp only [Option.some.injEq, Prod.mk.injEq] at H
    obtain ⟨rfl, rfl⟩ := H
    go_wp2_with (first | ((with_reducible refine gate_dst (N := 68) rfl ?_); refine Kd.R_lit k46 _ 46 ?hg (N := 68) ?hd (xs := ([(⟨2, 0, 65536⟩ : S46), (⟨3, 0, 65536⟩ : S46)] : List (S46))) (inner := [.int .i64 2, .int .i64 0, .int .i64 65536, .int .i64 3, .int .i64 0, .int .i64 65536]) (ok := fun _ => True) (okp := fun _ => True) ?hr ?hp (fun _ hk => hk) trivial (Below.refl _ _) (Nat.le_refl _) (by simp) ?_; (case hd => rfl); (case hg => rfl); (case hr => first | (go_simp; done) | (go_simp; rfl)); (case hp => exact (Reps.c3 (show Kd.M k46 _ _ _ (⟨2, 0, 65536⟩ : S46) [.int .i64 2, .int .i64 0, .int .i64 65536] from (k46_mkM _ _ _ (⟨2, 0, 65536⟩ : S46) )) (Reps.c3 (show Kd.M k46 _ _ _ (⟨3, 0, 65536⟩ : S46) [.int .i64 3, .int .i64 0, .int .i64 65536] from (k46_mkM _ _ _ (⟨3, 0, 65536⟩ : S46) )) (Reps.none _ _)))); intro v258 w15 ho16 hb hg_ hnew_; clear hg_ hnew_; (first | rw [← Ny257.out] at ho16 | (simp only [Int.reduceToNat] at ho16; rw [← Ny257.out] at ho16)); have n0_ := Aside0.mk (Kd.R_below (by (with_reducible repeat (first | apply Kd.R_alloc | apply Kd.R_drewN | apply Kd.R_drew)); exact HO_4.out) hb); have n1_ := Aside0.mk (Kd.R_lower ho16 (below_size (by repeat (first | (with_reducible first | exact HB.out | apply below_alloc | apply pw_below_drewN | apply below_drew1) | exact HB.out)))); have n2_ := Aside0.mk (below_step (by repeat (first | (with_reducible first | exact HB.out | apply below_alloc | apply pw_below_drewN | apply below_drew1) | exact HB.out)) hb); clear HO_4; clear HB; have HO_4 := n0_; have HO259 := n1_; have HB := n2_; clear n0_ n1_ n2_; clear hb ho16))
    go_ret2
    exact ⟨_, _, by first | rfl | (simp [errW_none, errW_some] <;> rfl) | (simp [*, errW_none, errW_some] <;> rfl), by (with_reducible repeat (first | apply Kd.R_alloc | apply Kd.R_drewN | apply Kd.R_drew)); exact HO_4.out, by (with_reducible repeat (first | apply Kd.R_alloc | apply Kd.R_drewN | apply Kd.R_drew)); exact HO259.out, by repeat (first | (with_reducible first | exact HB.out | apply below_alloc | apply pw_below_drewN | apply below_drew1) | exact HB.out)⟩
end Go.Proofs.Ytjlbgopgeepiaaa.PConf
set_option linter.unusedVariables false
namespace Go.Proofs.Ytjlbgopgeepiaaa.LemDigitConf
open Go.RowKit Go.Proofs.Ytjlbgopgeepiaaa.PConf Go.Proofs.YtjlbgopgeepiaaaW.PrintWords Go.Proofs.YtjlbgopgeepiaaaW.PrintLast Go.Proofs.YtjlbgopgeepiaaaW.PrintMore Go.Proofs.Ytjlbgopgeepiaaa.Num Go.Proofs.Ytjlbgopgeepiaaa.LemWithinConf
theorem digit_eq (n d m : Int) (hn : -9223372036854775808 ≤ n ∧ n < 9223372036854775808) (hd : 2 ≤ d) (hm : 0 < m) (hm2 : m < 4611686018427387904) : busbarlaw0_Digit.f n d m = some (Int.tdiv n d % m) := by
  unfold busbarlaw0_Digit.f
  have h : -9223372036854775808 ≤ Int.tdiv n d ∧ Int.tdiv n d < 9223372036854775808 := by
    have h3 : (Int.natAbs (Int.tdiv n d)) ≤ Int.natAbs n / 2 := by rw [Int.natAbs_tdiv]; exact Nat.div_le_div_left (by omega) (by omega)
    omega
  rw [if_neg (by omega), wrap64_id h.1 h.2, within_eq _ m hm hm2]
  rfl
end Go.Proofs.Ytjlbgopgeepiaaa.LemDigitConf
set_option linter.unusedVariables false
set_option linter.unusedSimpArgs false
namespace Go.Proofs.Ytjlbgopgeepiaaa.LemGroupConf
open Go.RowKit Go.Proofs.Ytjlbgopgeepiaaa.PConf Go.Proofs.YtjlbgopgeepiaaaW.PrintWords Go.Proofs.YtjlbgopgeepiaaaW.PrintLast Go.Proofs.YtjlbgopgeepiaaaW.PrintMore Go.Proofs.Ytjlbgopgeepiaaa.Num Go.Proofs.Ytjlbgopgeepiaaa.LemWithinConf Go.Proofs.Ytjlbgopgeepiaaa.LemDigitConf
abbrev Gr := S48
def Spl (g : Gr) (t a b : Int) : Prop := g.f0 = t ∧ a < b ∧ g.f1 < b ∧ a < g.f1 + g.f2 ∧ (g.f1 < a ∨ b < g.f1 + g.f2)
instance (g : Gr) (t a b : Int) : Decidable (Spl g t a b) := by unfold Spl; infer_instance
end Go.Proofs.Ytjlbgopgeepiaaa.LemGroupConf
set_option linter.unusedVariables false
set_option linter.unusedSimpArgs false
namespace Go.Proofs.Ytjlbgopgeepiaaa.LemGChkConf
open Go.RowKit Go.Proofs.Ytjlbgopgeepiaaa.PConf Go.Proofs.YtjlbgopgeepiaaaW.PrintWords Go.Proofs.YtjlbgopgeepiaaaW.PrintLast Go.Proofs.YtjlbgopgeepiaaaW.PrintMore Go.Proofs.Ytjlbgopgeepiaaa.Num Go.Proofs.Ytjlbgopgeepiaaa.LemWithinConf Go.Proofs.Ytjlbgopgeepiaaa.LemSpanConf Go.Proofs.Ytjlbgopgeepiaaa.LemSpanFoConf Go.Proofs.Ytjlbgopgeepiaaa.LemSpanFqConf Go.Proofs.Ytjlbgopgeepiaaa.LemGroupConf
theorem and1 (n : Int) : bits .and .i64 n 1 = n % 2 := by
  have h127 : (BitVec.ofInt 64 1).toNat = 2 ^ 1 - 1 := by decide
  have key : (BitVec.ofInt 64 n &&& BitVec.ofInt 64 1).toNat = (n % ((2 ^ 64 : Nat) : Int)).toNat % 2 ^ 1 := by
    rw [BitVec.toNat_and, BitVec.toNat_ofInt, h127, Nat.and_two_pow_sub_one_eq_mod]
  show IntKind.i64.wrap ((BitVec.ofInt 64 n &&& BitVec.ofInt 64 1).toNat : Nat) = n % 2
  rw [key, IntKind.wrap_i64]
  omega
theorem and3 (n : Int) : bits .and .i64 n 3 = n % 4 := by
  have h127 : (BitVec.ofInt 64 3).toNat = 2 ^ 2 - 1 := by decide
  have key : (BitVec.ofInt 64 n &&& BitVec.ofInt 64 3).toNat = (n % ((2 ^ 64 : Nat) : Int)).toNat % 2 ^ 2 := by
    rw [BitVec.toNat_and, BitVec.toNat_ofInt, h127, Nat.and_two_pow_sub_one_eq_mod]
  show IntKind.i64.wrap ((BitVec.ofInt 64 n &&& BitVec.ofInt 64 3).toNat : Nat) = n % 4
  rw [key, IntKind.wrap_i64]
  omega
def Ok1 (g : Gr) : Prop := (g.f0 = 2 ∨ g.f0 = 3) ∧ (g.f2 = 2 ∨ g.f2 = 4) ∧ 0 ≤ g.f1 ∧ g.f1 < 65536
instance (g : Gr) : Decidable (Ok1 g) := by unfold Ok1; infer_instance
def am (g : Gr) : Int := if Ok1 g then (if g.f1 % g.f2 = 0 then 0 else 2) else 1
theorem sized1 (n : Int) : group_sized.f n = some (decide (n = 2 ∨ n = 4)) := by
  unfold group_sized.f
  by_cases h : n = 2
  · rw [if_pos h, decide_eq_true (.inl h)]
  · rw [if_neg h]
    by_cases h4 : n = 4
    · rw [decide_eq_true (.inr h4), h4]; rfl
    · rw [decide_eq_false (by omega), beq_eq_false_iff_ne.2 h4]
theorem amiss_eq (g : Gr) {k : Nat} (hk : 1 ≤ k) : group_amiss.f k g.f0 g.f1 g.f2 = some (am g) := by
  obtain ⟨k, rfl⟩ : ∃ m, k = m + 1 := ⟨k - 1, by omega⟩
  have hj : ¬ Ok1 g → group_amiss.j0 (k + 1) true g.f0 g.f1 g.f2 = some (am g) := fun h => by
    unfold am
    rw [group_amiss.j0, if_pos rfl, if_neg h]
  have hj2 : (g.f0 = 2 ∨ g.f0 = 3) → ((group_sized.f g.f2).bind fun t => (if t = true then (if g.f1 < 0 then (group_amiss.j0 (k + 1) true g.f0 g.f1 g.f2) else (group_amiss.j0 (k + 1) (decide (g.f1 ≥ 65536)) g.f0 g.f1 g.f2)) else (group_amiss.j0 (k + 1) true g.f0 g.f1 g.f2))) = some (am g) := fun ht => by
    rw [sized1, Option.bind_some]
    by_cases hs : g.f2 = 2 ∨ g.f2 = 4
    · rw [decide_eq_true hs, if_pos rfl]
      by_cases h0 : g.f1 < 0
      · rw [if_pos h0, hj (by unfold Ok1; omega)]
      · rw [if_neg h0]
        by_cases h1 : g.f1 ≥ 65536
        · rw [decide_eq_true h1, hj (by unfold Ok1; omega)]
        · have ho : Ok1 g := by unfold Ok1; omega
          rw [decide_eq_false h1, group_amiss.j0, if_neg (by decide)]
          unfold am
          rw [if_pos ho]
          rcases hs with hs | hs
          · rw [hs, show wrap64 (2 - 1) = 1 from wrap64_id (by omega) (by omega), and1]
            split <;> rfl
          · rw [hs, show wrap64 (4 - 1) = 3 from wrap64_id (by omega) (by omega), and3]
            split <;> rfl
    · rw [decide_eq_false hs, if_neg (by decide), hj (by unfold Ok1; omega)]
  unfold group_amiss.f
  by_cases h2 : g.f0 = 2
  · rw [if_pos h2, hj2 (.inl h2)]
  · rw [if_neg h2]
    by_cases h3 : g.f0 = 3
    · rw [if_pos h3, hj2 (.inr h3)]
    · rw [if_neg h3, hj (by unfold Ok1; omega)]
def bh (p g : Gr) : Prop := p.f0 < g.f0 ∨ (p.f0 = g.f0 ∧ wrap64 (p.f1 + p.f2) ≤ g.f1)
instance (p g : Gr) : Decidable (bh p g) := by unfold bh; infer_instance
theorem behind_eq (g p : Gr) : group_behind.f g.f0 g.f1 g.f2 p.f0 p.f1 p.f2 = some (decide (bh p g)) := by
  unfold group_behind.f
  by_cases h : g.f0 > p.f0
  · rw [if_pos h, decide_eq_true (show bh p g from .inl h)]
  · rw [if_neg h]
    by_cases h2 : g.f0 = p.f0
    · rw [if_pos h2]
      by_cases h3 : g.f1 ≥ wrap64 (p.f1 + p.f2)
      · rw [decide_eq_true h3, decide_eq_true (show bh p g from .inr ⟨h2.symm, h3⟩)]
      · rw [decide_eq_false h3, decide_eq_false (show ¬ bh p g by unfold bh; omega)]
    · rw [if_neg h2, decide_eq_false (show ¬ bh p g by unfold bh; omega)]
def rw_ (g : Gr) : S := ⟨g.f0, g.f1, wrap64 (g.f1 + g.f2)⟩
theorem rw_rt (g : Gr) (h : Ok1 g) (h2 : g.f1 % g.f2 = 0) : Rt (rw_ g) := by
  unfold Ok1 at h
  unfold Rt rw_
  rw [wrap64_id (by omega) (by omega)]
  dsimp only
  rcases h.2.1 with h3 | h3 <;> rw [h3] at h2 ⊢ <;> omega
def gch (l : List Gr) (m : List S) : Nat → Nat → Int
  | 0, _ => 0
  | d + 1, i => if am (rd_T48 l (i : Int)) ≠ 0 then am (rd_T48 l (i : Int)) else if i > 0 ∧ ¬ bh (rd_T48 l ((i : Int) - 1)) (rd_T48 l (i : Int)) then 2 else if Covers m (rw_ (rd_T48 l (i : Int))) then gch l m d (i + 1) else 5
theorem gch_succ (l : List Gr) (m : List S) (d i : Nat) : gch l m (d + 1) i = if am (rd_T48 l (i : Int)) ≠ 0 then am (rd_T48 l (i : Int)) else if i > 0 ∧ ¬ bh (rd_T48 l ((i : Int) - 1)) (rd_T48 l (i : Int)) then 2 else if Covers m (rw_ (rd_T48 l (i : Int))) then gch l m d (i + 1) else 5 := rfl
theorem am_zero (g : Gr) (h : am g = 0) : Ok1 g ∧ g.f1 % g.f2 = 0 := by
  unfold am at h
  split at h
  · split at h
    · exact ⟨‹_›, ‹_›⟩
    · omega
  · omega
theorem check_loop (l : List Gr) (m : List S) (hl : l.length ≤ 100000) (hm : m.length ≤ 100000) : ∀ (d i k : Nat), i + d = l.length → m.length + 2 * d + 2 < k → group_Check.l0 k l m l (l.length : Int) (i : Int) = some (gch l m d i)
  | 0, i, k, h, hk => by
    obtain ⟨k, rfl⟩ : ∃ m, k = m + 1 := ⟨k - 1, by omega⟩
    rw [group_Check.l0, if_neg (by omega)]
    rfl
  | d + 1, i, k, h, hk => by
    obtain ⟨k, rfl⟩ : ∃ m, k = m + 2 := ⟨k - 2, by omega⟩
    have ih := check_loop l m hl hm d (i + 1) k (by omega) (by omega)
    have hw : wrap64 ((i : Int) + 1) = ((i + 1 : Nat) : Int) := by rw [wrap64_id (by omega) (by omega)]; rfl
    rw [group_Check.l0, if_pos (by omega), if_pos (by omega), if_pos (by omega), amiss_eq _ (by omega), Option.bind_some, gch_succ]
    generalize hg : rd_T48 l (i : Int) = g
    by_cases ha : am g = 0
    · have hok := am_zero g ha
      have hj : group_Check.j1 (k + 1) l m l (l.length : Int) (i : Int) false g.f0 g.f1 g.f2 = some (if Covers m (rw_ g) then gch l m d (i + 1) else 5) := by
        rw [group_Check.j1, if_neg (by decide)]
        unfold group_row.f
        rw [Option.bind_some]
        have e := covers_eq m (rw_ g) (rw_rt g hok.1 hok.2) hm (k := k) (by omega)
        refine (congrArg (fun z => Option.bind z _) e).trans ?_
        rw [Option.bind_some, hw, ih]
        by_cases hc : Covers m (rw_ g)
        · rw [decide_eq_true hc, if_pos rfl, if_pos hc]
        · rw [decide_eq_false hc, if_neg (by decide), if_neg hc]
      rw [if_pos ha, if_neg (show ¬ (am g ≠ 0) by simp [ha])]
      by_cases h0 : i = 0
      · rw [if_neg (by omega), if_neg (show ¬ (i > 0 ∧ ¬ bh (rd_T48 l ((i : Int) - 1)) g) by omega), hj]
      · rw [if_pos (by omega), wrap64_id (x := (i : Int) - 1) (by omega) (by omega), if_pos (by omega), if_pos (by omega), behind_eq, Option.bind_some]
        by_cases hb : bh (rd_T48 l ((i : Int) - 1)) g
        · rw [decide_eq_true hb, Bool.not_true, if_neg (show ¬ (i > 0 ∧ ¬ bh (rd_T48 l ((i : Int) - 1)) g) from fun h => h.2 hb), hj]
        · rw [decide_eq_false hb, Bool.not_false, group_Check.j1, if_pos rfl, if_pos ⟨by omega, hb⟩]
    · rw [if_neg ha, if_pos ha]
theorem refgroups_j1 (l : List Gr) (m : List S) (k i : Nat) (g : Gr) (h : ¬ Ok1 g) : busbarref12_Groups.j1 (k + 1) l m (i : Int) true g.f0 g.f1 g.f2 = some (am g) := by
  unfold am
  rw [busbarref12_Groups.j1, if_pos rfl, if_neg h]
theorem refgroups_loop (l : List Gr) (m : List S) (hl : l.length ≤ 100000) (hm : m.length ≤ 100000) : ∀ (d i k : Nat), i + d = l.length → m.length + 3 * d + 3 < k → busbarref12_Groups.l0 k l m (i : Int) = some (gch l m d i)
  | 0, i, k, h, hk => by
    obtain ⟨k, rfl⟩ : ∃ m, k = m + 1 := ⟨k - 1, by omega⟩
    rw [busbarref12_Groups.l0, if_neg (by omega)]
    rfl
  | d + 1, i, k, h, hk => by
    obtain ⟨k, rfl⟩ : ∃ m, k = m + 3 := ⟨k - 3, by omega⟩
    have ih := refgroups_loop l m hl hm d (i + 1) k (by omega) (by omega)
    have hw : wrap64 ((i : Int) + 1) = ((i + 1 : Nat) : Int) := by rw [wrap64_id (by omega) (by omega)]; rfl
    rw [busbarref12_Groups.l0, if_pos (by omega), if_pos (by omega), gch_succ]
    generalize hg : rd_T48 l (i : Int) = g
    have hj2 : am g = 0 → busbarref12_Groups.j2 (k + 1) l m (i : Int) false g.f0 g.f1 g.f2 = some (if Covers m (rw_ g) then gch l m d (i + 1) else 5) := fun ha => by
      rw [busbarref12_Groups.j2, if_neg (by decide)]
      have e := refcovers_eq m (rw_ g) hm (k := k) (by omega)
      refine (congrArg (fun z => Option.bind z _) e).trans ?_
      rw [Option.bind_some, hw, ih]
      by_cases hc : Covers m (rw_ g)
      · rw [decide_eq_true hc, if_pos rfl, if_pos hc]
      · rw [decide_eq_false hc, if_neg (by decide), if_neg hc]
    have hj2t : busbarref12_Groups.j2 (k + 1) l m (i : Int) true g.f0 g.f1 g.f2 = some 2 := by rw [busbarref12_Groups.j2, if_pos rfl]
    have hj1 : Ok1 g → busbarref12_Groups.j1 (k + 2) l m (i : Int) (decide (g.f1 ≥ 65536)) g.f0 g.f1 g.f2 = some (if am g ≠ 0 then am g else if i > 0 ∧ ¬ bh (rd_T48 l ((i : Int) - 1)) g then 2 else if Covers m (rw_ g) then gch l m d (i + 1) else 5) := fun ho => by
      have ho' := ho
      unfold Ok1 at ho'
      rw [decide_eq_false (by omega), busbarref12_Groups.j1, if_neg (by decide), if_neg (by omega), tmod_pos (by omega)]
      by_cases h0 : g.f1 % g.f2 = 0
      · have ha : am g = 0 := by unfold am; rw [if_pos ho, if_pos h0]
        rw [if_pos h0, if_neg (show ¬ (am g ≠ 0) by simp [ha])]
        by_cases hi : i = 0
        · rw [if_neg (by omega), if_neg (show ¬ (i > 0 ∧ ¬ bh (rd_T48 l ((i : Int) - 1)) g) by omega), hj2 ha]
        · rw [if_pos (by omega), wrap64_id (x := (i : Int) - 1) (by omega) (by omega), if_pos (by omega), if_pos (by omega)]
          generalize rd_T48 l ((i : Int) - 1) = p
          by_cases h1 : p.f0 > g.f0
          · rw [if_pos h1, hj2t, if_pos (show i > 0 ∧ ¬ bh p g from ⟨by omega, by unfold bh; omega⟩)]
          · rw [if_neg h1]
            by_cases h2 : p.f0 = g.f0
            · rw [if_pos h2]
              by_cases h3 : wrap64 (p.f1 + p.f2) > g.f1
              · rw [decide_eq_true h3, hj2t, if_pos (show i > 0 ∧ ¬ bh p g from ⟨by omega, by unfold bh; omega⟩)]
              · rw [decide_eq_false h3, if_neg (show ¬ (i > 0 ∧ ¬ bh p g) by unfold bh; omega), hj2 ha]
            · rw [if_neg h2, if_neg (show ¬ (i > 0 ∧ ¬ bh p g) by unfold bh; omega), hj2 ha]
      · have ha : am g = 2 := by unfold am; rw [if_pos ho, if_neg h0]
        rw [if_neg h0, if_pos (show am g ≠ 0 by rw [ha]; decide), ha]
    have hbad : ¬ Ok1 g → busbarref12_Groups.j1 (k + 2) l m (i : Int) true g.f0 g.f1 g.f2 = some (if am g ≠ 0 then am g else if i > 0 ∧ ¬ bh (rd_T48 l ((i : Int) - 1)) g then 2 else if Covers m (rw_ g) then gch l m d (i + 1) else 5) := fun h => by
      have ha : am g = 1 := by unfold am; rw [if_neg h]
      rw [refgroups_j1 l m (k + 1) i g h, if_pos (show am g ≠ 0 by rw [ha]; decide)]
    have hat : (g.f0 = 2 ∨ g.f0 = 3) → (g.f2 = 2 ∨ g.f2 = 4) → (if g.f1 < 0 then (busbarref12_Groups.j1 (k + 2) l m (i : Int) true g.f0 g.f1 g.f2) else (busbarref12_Groups.j1 (k + 2) l m (i : Int) (decide (g.f1 ≥ 65536)) g.f0 g.f1 g.f2)) = some (if am g ≠ 0 then am g else if i > 0 ∧ ¬ bh (rd_T48 l ((i : Int) - 1)) g then 2 else if Covers m (rw_ g) then gch l m d (i + 1) else 5) := fun ht hs => by
      by_cases h0 : g.f1 < 0
      · rw [if_pos h0, hbad (by unfold Ok1; omega)]
      · rw [if_neg h0]
        by_cases h1 : g.f1 ≥ 65536
        · rw [decide_eq_true h1, hbad (by unfold Ok1; omega)]
        · exact hj1 (by unfold Ok1; omega)
    by_cases t2 : g.f0 = 2
    · rw [if_pos t2]
      by_cases s2 : g.f2 = 2
      · rw [if_pos s2, hat (.inl t2) (.inl s2)]
      · rw [if_neg s2]
        by_cases s4 : g.f2 = 4
        · rw [if_pos s4, hat (.inl t2) (.inr s4)]
        · rw [if_neg s4, hbad (by unfold Ok1; omega)]
    · rw [if_neg t2]
      by_cases t3 : g.f0 = 3
      · rw [if_pos t3]
        by_cases s2 : g.f2 = 2
        · rw [if_pos s2, hat (.inr t3) (.inl s2)]
        · rw [if_neg s2]
          by_cases s4 : g.f2 = 4
          · rw [if_pos s4, hat (.inr t3) (.inr s4)]
          · rw [if_neg s4, hbad (by unfold Ok1; omega)]
      · rw [if_neg t3, hbad (by unfold Ok1; omega)]
def gchk (l : List Gr) (m : List S) : Int := gch l m l.length 0
theorem gcheck_eq (l : List Gr) (m : List S) (hl : l.length ≤ 100000) (hm : m.length ≤ 100000) {k : Nat} (hk : m.length + 2 * l.length + 2 < k) : group_Check.f k l m = some (gchk l m) := check_loop l m hl hm l.length 0 k (by omega) hk
theorem refgroups_eq (l : List Gr) (m : List S) (hl : l.length ≤ 100000) (hm : m.length ≤ 100000) {k : Nat} (hk : m.length + 3 * l.length + 3 < k) : busbarref12_Groups.f k l m = some (gchk l m) := refgroups_loop l m hl hm l.length 0 k (by omega) hk
end Go.Proofs.Ytjlbgopgeepiaaa.LemGChkConf
set_option linter.unusedVariables false
set_option linter.unusedSimpArgs false
namespace Go.Proofs.Ytjlbgopgeepiaaa.LemConfConf
open Go.RowKit Go.Proofs.Ytjlbgopgeepiaaa.PConf Go.Proofs.YtjlbgopgeepiaaaW.PrintWords Go.Proofs.YtjlbgopgeepiaaaW.PrintLast Go.Proofs.YtjlbgopgeepiaaaW.PrintMore Go.Proofs.Ytjlbgopgeepiaaa.Num Go.Proofs.Ytjlbgopgeepiaaa.LemWithinConf Go.Proofs.Ytjlbgopgeepiaaa.LemDigitConf Go.Proofs.Ytjlbgopgeepiaaa.LemSpanConf Go.Proofs.Ytjlbgopgeepiaaa.LemCheckConf Go.Proofs.Ytjlbgopgeepiaaa.LemGroupConf Go.Proofs.Ytjlbgopgeepiaaa.LemGChkConf Go.Proofs.Ytjlbgopgeepiaaa.LemIdenConf
theorem c_within (a lo hi : Int) : conf_within.f a lo hi = some (decide (lo ≤ a ∧ a ≤ hi)) := by
  unfold conf_within.f
  by_cases h : a ≥ lo
  · rw [if_pos h]
    congr 1
    rw [decide_eq_decide]
    omega
  · rw [if_neg h, decide_eq_false (by omega)]
def InR (a3 a4 a5 a6 a7 a8 a9 a10 : Int) : Prop := (1 ≤ a3 ∧ a3 ≤ 65535) ∧ (1 ≤ a4 ∧ a4 ≤ 32) ∧ (0 ≤ a5 ∧ a5 ≤ 32) ∧ (0 ≤ a6 ∧ a6 ≤ 1048576) ∧ (1 ≤ a7 ∧ a7 ≤ 1000) ∧ (1 ≤ a8 ∧ a8 ≤ 5000) ∧ (260 ≤ a9 ∧ a9 ≤ 65536) ∧ (260 ≤ a10 ∧ a10 ≤ 65536)
instance (a3 a4 a5 a6 a7 a8 a9 a10 : Int) : Decidable (InR a3 a4 a5 a6 a7 a8 a9 a10) := by unfold InR; infer_instance
def tail (k : Nat) (m : List S46) (g : List S48) (w : Int) (o : List S50) : Option Int := (plan_Check.f k m w).bind fun t162 => (if t162 = 0 then ((group_Check.f k g m).bind fun t163 => (if t163 = 0 then ((iden_Check.f k o).bind fun t164 => (some t164)) else (some t163))) else (some t162))
theorem conf_f (k : Nat) (m : List S46) (g : List S48) (w a3 a4 a5 a6 a7 a8 a9 a10 a11 : Int) (o : List S50) : conf_Check.f (k + 1) m g w a3 a4 a5 a6 a7 a8 a9 a10 a11 o = if InR a3 a4 a5 a6 a7 a8 a9 a10 then tail k m g w o else some 1 := by
  have hj : conf_Check.j0 (k + 1) true m g w a3 a4 a5 a6 a7 a8 a9 a10 a11 o = some 1 := by rw [conf_Check.j0, if_pos rfl]
  unfold conf_Check.f
  rw [c_within, Option.bind_some]
  by_cases h3 : 1 ≤ a3 ∧ a3 ≤ 65535
  · rw [decide_eq_true h3, if_pos rfl, c_within, Option.bind_some]
    by_cases h4 : 1 ≤ a4 ∧ a4 ≤ 32
    · rw [decide_eq_true h4, if_pos rfl, c_within, Option.bind_some]
      by_cases h5 : 0 ≤ a5 ∧ a5 ≤ 32
      · rw [decide_eq_true h5, if_pos rfl, c_within, Option.bind_some]
        by_cases h6 : 0 ≤ a6 ∧ a6 ≤ 1048576
        · rw [decide_eq_true h6, if_pos rfl, c_within, Option.bind_some]
          by_cases h7 : 1 ≤ a7 ∧ a7 ≤ 1000
          · rw [decide_eq_true h7, if_pos rfl, c_within, Option.bind_some]
            by_cases h8 : 1 ≤ a8 ∧ a8 ≤ 5000
            · rw [decide_eq_true h8, if_pos rfl, c_within, Option.bind_some]
              by_cases h9 : 260 ≤ a9 ∧ a9 ≤ 65536
              · rw [decide_eq_true h9, if_pos rfl, c_within, Option.bind_some]
                by_cases h10 : 260 ≤ a10 ∧ a10 ≤ 65536
                · rw [decide_eq_true h10, Bool.not_true, conf_Check.j0, if_neg (by decide), if_pos (show InR a3 a4 a5 a6 a7 a8 a9 a10 from ⟨h3, h4, h5, h6, h7, h8, h9, h10⟩)]
                  rfl
                · rw [decide_eq_false h10, Bool.not_false, hj, if_neg (fun h : InR a3 a4 a5 a6 a7 a8 a9 a10 => h10 h.2.2.2.2.2.2.2)]
              · rw [decide_eq_false h9, if_neg (by decide), hj, if_neg (fun h : InR a3 a4 a5 a6 a7 a8 a9 a10 => h9 h.2.2.2.2.2.2.1)]
            · rw [decide_eq_false h8, if_neg (by decide), hj, if_neg (fun h : InR a3 a4 a5 a6 a7 a8 a9 a10 => h8 h.2.2.2.2.2.1)]
          · rw [decide_eq_false h7, if_neg (by decide), hj, if_neg (fun h : InR a3 a4 a5 a6 a7 a8 a9 a10 => h7 h.2.2.2.2.1)]
        · rw [decide_eq_false h6, if_neg (by decide), hj, if_neg (fun h : InR a3 a4 a5 a6 a7 a8 a9 a10 => h6 h.2.2.2.1)]
      · rw [decide_eq_false h5, if_neg (by decide), hj, if_neg (fun h : InR a3 a4 a5 a6 a7 a8 a9 a10 => h5 h.2.2.1)]
    · rw [decide_eq_false h4, if_neg (by decide), hj, if_neg (fun h : InR a3 a4 a5 a6 a7 a8 a9 a10 => h4 h.2.1)]
  · rw [decide_eq_false h3, if_neg (by decide), hj, if_neg (fun h : InR a3 a4 a5 a6 a7 a8 a9 a10 => h3 h.1)]
def reftail (k : Nat) (m : List S46) (g : List S48) (w : Int) (o : List S50) : Option Int := (busbarref12_Plan.f k m w).bind fun t486 => (if t486 = 0 then ((busbarref12_Groups.f k g m).bind fun t487 => (if t487 = 0 then ((busbarref5_Objects.f k o).bind fun t488 => (some t488)) else (some t487))) else (some t486))
theorem ref_f (k : Nat) (m : List S46) (g : List S48) (w a3 a4 a5 a6 a7 a8 a9 a10 a11 : Int) (o : List S50) : busbarref12_Check.f (k + 2) m g w a3 a4 a5 a6 a7 a8 a9 a10 a11 o = if InR a3 a4 a5 a6 a7 a8 a9 a10 then reftail k m g w o else some 1 := by
  have hj : busbarref12_Check.j0 (k + 2) true m g w a3 a4 a5 a6 a7 a8 a9 a10 a11 o = some 1 := by rw [busbarref12_Check.j0, if_pos rfl]
  have hj1 : busbarref12_Check.j1 (k + 1) true m g w a3 a4 a5 a6 a7 a8 a9 a10 a11 o = some 1 := by rw [busbarref12_Check.j1, if_pos rfl]
  by_cases hI : InR a3 a4 a5 a6 a7 a8 a9 a10
  · have hI' := hI
    unfold InR at hI'
    rw [if_pos hI]
    unfold busbarref12_Check.f
    rw [if_neg (by omega), if_neg (by omega), if_neg (by omega), if_neg (by omega), if_neg (by omega), decide_eq_false (by omega), busbarref12_Check.j0, if_neg (by decide), if_neg (by omega), if_neg (by omega), if_neg (by omega), if_neg (by omega), if_neg (by omega), decide_eq_false (by omega),
      busbarref12_Check.j1, if_neg (by decide), if_neg (by omega), if_neg (by omega), if_neg (by omega), if_neg (by omega)]
    rfl
  · rw [if_neg hI]
    unfold InR at hI
    have h2 : ¬ ((0 ≤ a6 ∧ a6 ≤ 1048576) ∧ (1 ≤ a7 ∧ a7 ≤ 1000) ∧ (1 ≤ a8 ∧ a8 ≤ 5000) ∧ (260 ≤ a9 ∧ a9 ≤ 65536) ∧ (260 ≤ a10 ∧ a10 ≤ 65536)) → busbarref12_Check.j0 (k + 2) false m g w a3 a4 a5 a6 a7 a8 a9 a10 a11 o = some 1 := fun h => by
      have h3 : ¬ ((260 ≤ a9 ∧ a9 ≤ 65536) ∧ (260 ≤ a10 ∧ a10 ≤ 65536)) → busbarref12_Check.j1 (k + 1) false m g w a3 a4 a5 a6 a7 a8 a9 a10 a11 o = some 1 := fun h => by
        rw [busbarref12_Check.j1, if_neg (by decide)]
        by_cases c1 : a9 < 260
        · rw [if_pos c1]
        rw [if_neg c1]
        by_cases c2 : a9 > 65536
        · rw [if_pos c2]
        rw [if_neg c2]
        by_cases c3 : a10 < 260
        · rw [if_pos c3]
        rw [if_neg c3, if_pos (by omega)]
      rw [busbarref12_Check.j0, if_neg (by decide)]
      by_cases c1 : a6 < 0
      · rw [if_pos c1, hj1]
      rw [if_neg c1]
      by_cases c2 : a6 > 1048576
      · rw [if_pos c2, hj1]
      rw [if_neg c2]
      by_cases c3 : a7 < 1
      · rw [if_pos c3, hj1]
      rw [if_neg c3]
      by_cases c4 : a7 > 1000
      · rw [if_pos c4, hj1]
      rw [if_neg c4]
      by_cases c5 : a8 < 1
      · rw [if_pos c5, hj1]
      rw [if_neg c5]
      by_cases c6 : a8 > 5000
      · rw [decide_eq_true c6, hj1]
      rw [decide_eq_false c6, h3 (by omega)]
    unfold busbarref12_Check.f
    by_cases c1 : a3 < 1
    · rw [if_pos c1, hj]
    rw [if_neg c1]
    by_cases c2 : a3 > 65535
    · rw [if_pos c2, hj]
    rw [if_neg c2]
    by_cases c3 : a4 < 1
    · rw [if_pos c3, hj]
    rw [if_neg c3]
    by_cases c4 : a4 > 32
    · rw [if_pos c4, hj]
    rw [if_neg c4]
    by_cases c5 : a5 < 0
    · rw [if_pos c5, hj]
    rw [if_neg c5]
    by_cases c6 : a5 > 32
    · rw [decide_eq_true c6, hj]
    rw [decide_eq_false c6, h2 (by omega)]
theorem conf_eq (m : List S46) (g : List S48) (w a3 a4 a5 a6 a7 a8 a9 a10 a11 : Int) (o : List S50) (hm : m.length ≤ 1000) (hg : g.length ≤ 1000) (ho : o.length ≤ 1000) {k : Nat} (hk : 9000 ≤ k) : ∃ v, conf_Check.f k m g w a3 a4 a5 a6 a7 a8 a9 a10 a11 o = some v ∧ busbarref12_Check.f k m g w a3 a4 a5 a6 a7 a8 a9 a10 a11 o = some v := by
  obtain ⟨k, rfl⟩ : ∃ j, k = j + 2 := ⟨k - 2, by omega⟩
  rw [show k + 2 = (k + 1) + 1 from rfl, conf_f, show k + 1 + 1 = k + 2 from rfl, ref_f]
  by_cases hI : InR a3 a4 a5 a6 a7 a8 a9 a10
  · rw [if_pos hI, if_pos hI]
    obtain ⟨v, h1, h2⟩ : ∃ v, iden_Check.f (k + 1) o = some v ∧ busbarref5_Objects.f k o = some v := by
      obtain ⟨v, h1, h2⟩ := iden_eq o (by omega) (k := k) (by omega)
      exact ⟨v, at_rounds (g := fun k => iden_Check.f k o) (iden_Check.mono o) (Nat.le_succ k) h1, h2⟩
    unfold tail reftail
    rw [check_any m w (by omega) (by omega), Option.bind_some, refplan_any m w (by omega) (by omega), Option.bind_some]
    by_cases hc : chk m w = 0
    · rw [if_pos hc, if_pos hc, gcheck_eq g m (by omega) (by omega) (by omega), Option.bind_some, refgroups_eq g m (by omega) (by omega) (by omega), Option.bind_some]
      by_cases hg : gchk g m = 0
      · rw [if_pos hg, if_pos hg, h1, Option.bind_some, h2, Option.bind_some]
        exact ⟨v, rfl, rfl⟩
      · rw [if_neg hg, if_neg hg]
        exact ⟨_, rfl, rfl⟩
    · rw [if_neg hc, if_neg hc]
      exact ⟨_, rfl, rfl⟩
  · rw [if_neg hI, if_neg hI]
    exact ⟨1, rfl, rfl⟩
def OkO (l : List S50) : Prop := l.Pairwise (fun a b => a.f0 < b.f0) ∧ (∀ x ∈ l, 0 ≤ x.f0 ∧ x.f0 ≤ 255 ∧ x.f1.size ≤ 244) ∧ ∃ a b c t, l = a :: b :: c :: t ∧ a.f0 = 0 ∧ b.f0 = 1 ∧ c.f0 = 2
theorem ok_l1 (l : List S50) (hl : l.length ≤ 1000) (h : OkO l) : ∀ (d i k : Nat), i + d = l.length → d + 6 ≤ k → busbarref5_Objects.l1 k l (i : Int) = some 0
  | 0, i, k, hi, hk => by
    obtain ⟨k, rfl⟩ : ∃ m, k = m + 5 := ⟨k - 5, by omega⟩
    obtain ⟨a, b, c, t, rfl, e0, e1, e2⟩ := h.2.2
    have hl3 : (a :: b :: c :: t).length = t.length + 3 := rfl
    have w1 : wrap64 ((0 : Int) + 1) = 1 := wrap64_id (by omega) (by omega)
    have w2 : wrap64 ((1 : Int) + 1) = 2 := wrap64_id (by omega) (by omega)
    have w3 : wrap64 ((2 : Int) + 1) = 3 := wrap64_id (by omega) (by omega)
    have r0 : (rd_T50 (a :: b :: c :: t) 0).f0 = 0 := e0
    have r1 : (rd_T50 (a :: b :: c :: t) 1).f0 = 1 := e1
    have r2 : (rd_T50 (a :: b :: c :: t) 2).f0 = 2 := e2
    rw [busbarref5_Objects.l1, if_neg (by omega), busbarref5_Objects.l2, if_pos (by omega), if_neg (by omega), if_pos (by omega), if_pos (by omega), if_pos r0, w1,
      busbarref5_Objects.l2, if_pos (by omega), if_neg (by omega), if_pos (by omega), if_pos (by omega), if_pos r1, w2,
      busbarref5_Objects.l2, if_pos (by omega), if_neg (by omega), if_pos (by omega), if_pos (by omega), if_pos r2, w3, busbarref5_Objects.l2, if_neg (by omega)]
  | d + 1, i, k, hi, hk => by
    obtain ⟨k, rfl⟩ : ∃ m, k = m + 1 := ⟨k - 1, by omega⟩
    have hlen : i < l.length := by omega
    have hs := (h.2.1 l[i] (List.getElem_mem hlen)).2.2
    rw [busbarref5_Objects.l1, if_pos (by omega), if_pos (by omega), rd50 l i hlen, if_neg (by omega), wrap64_id (by omega) (by omega)]
    exact ok_l1 l hl h d (i + 1) k (by omega) (by omega)
theorem ok_l0 (l : List S50) (hl : l.length ≤ 1000) (h : OkO l) : ∀ (d i k : Nat), i + d = l.length → d + l.length + 8 ≤ k → busbarref5_Objects.l0 k l (i : Int) = some 0
  | 0, i, k, hi, hk => by
    obtain ⟨k, rfl⟩ : ∃ m, k = m + 1 := ⟨k - 1, by omega⟩
    rw [busbarref5_Objects.l0, if_neg (by omega)]
    exact ok_l1 l hl h l.length 0 k (by omega) (by omega)
  | d + 1, i, k, hi, hk => by
    obtain ⟨k, rfl⟩ : ∃ m, k = m + 1 := ⟨k - 1, by omega⟩
    have hlen : i < l.length := by omega
    have hb := h.2.1 l[i] (List.getElem_mem hlen)
    have ih := ok_l0 l hl h d (i + 1) k (by omega) (by omega)
    have ec : wrap64 ((i : Int) + 1) = ((i + 1 : Nat) : Int) := by rw [wrap64_id (by omega) (by omega)]; omega
    rw [busbarref5_Objects.l0, if_pos (by omega), if_pos (by omega), rd50 l i hlen, byteful_eq, Option.bind_some, decide_eq_true ⟨hb.1, hb.2.1⟩, if_pos rfl]
    by_cases h0 : (i : Int) > 0
    · have hp : wrap64 ((i : Int) - 1) = ((i - 1 : Nat) : Int) := by rw [wrap64_id (by omega) (by omega)]; omega
      have hr := List.pairwise_iff_getElem.1 h.1 (i - 1) i (by omega) hlen (by omega)
      rw [if_pos h0, hp, if_pos (by omega), if_pos (by omega), rd50 l (i - 1) (by omega), if_neg (by omega), ec]
      exact ih
    · rw [if_neg h0, ec]
      exact ih
theorem iden_ok (l : List S50) (hl : l.length ≤ 1000) (h : OkO l) {k : Nat} (hk : 3008 ≤ k) : iden_Check.f k l = some 0 := by
  obtain ⟨v, h1, h2⟩ := iden_eq l (by omega) (k := k) (by omega)
  have h3 : busbarref5_Objects.f k l = some 0 := ok_l0 l hl h l.length 0 k (by omega) (by omega)
  rw [h1, ← h2, h3]
theorem rd_get (l : List Int) (i : Nat) (h : i < l.length) : rd l (i : Int) = l[i] := by simp [rd, List.getD_eq_getElem?_getD, List.getElem?_eq_getElem h]
theorem objs_l1 (ks : List Int) (l : List S50) (id i : Int) (hl : l.length ≤ 1000) : ∀ (d j k : Nat) (b : List Int), j + d = b.length → b.length ≤ 1000 → ∃ b' : List Int, b'.length = b.length ∧ busbarlaw7_Objects.l1 (k + d + 1) ks l id i b (j : Int) = busbarlaw7_Objects.l0 k ks (l ++ [(⟨id, strOfNums b'⟩ : S50)]) id (wrap64 (i + 1))
  | 0, j, k, b, hj, hb => ⟨b, rfl, by rw [busbarlaw7_Objects.l1, if_neg (by omega), if_pos (by omega)]⟩
  | d + 1, j, k, b, hj, hb => by
    obtain ⟨b', h1, h2⟩ := objs_l1 ks l id i hl d (j + 1) k (b.set j ((wrap64 (97 + (Int.tmod (j : Int) 26))) % 256)) (by rw [List.length_set]; omega) (by rw [List.length_set]; omega)
    refine ⟨b', by rw [h1, List.length_set], ?_⟩
    rw [show k + (d + 1) + 1 = (k + d + 1) + 1 by omega, busbarlaw7_Objects.l1, if_pos (by omega), if_pos (by omega), wrap64_id (x := (j : Int) + 1) (by omega) (by omega), Int.toNat_natCast]
    exact h2
theorem objs_end (ks : List Int) (hks : ∀ x ∈ ks, -9223372036854775808 ≤ x ∧ x < 9223372036854775808) (l : List S50) (h : OkO l) (P : Option (List S50) → Prop) (hp : ∀ l', OkO l' → l'.length = l.length → P (some l')) : P (if (ks.length : Int) > 0 then (if 0 < (ks.length : Int) then ((busbarlaw0_Digit.f (rd ks 0) 2940 245).bind fun t493 => (if 0 ≤ t493 then (if (t493 : Int).toNat ≤ 281474976710656 then (if 1 < (l.length : Int) then (some (l.set (1 : Int).toNat (⟨(rd_T50 l 1).f0, strOfNums (List.replicate (t493 : Int).toNat 0)⟩ : S50))) else (none)) else (none)) else (none))) else (none)) else (some l)) := by
  by_cases c : (ks.length : Int) > 0
  · have hk0 : rd ks 0 = ks[0]'(by omega) := rd_get ks 0 (by omega)
    have hm := hks _ (List.getElem_mem (show 0 < ks.length by omega))
    rw [if_pos c, if_pos c, hk0, digit_eq _ 2940 245 hm (by omega) (by omega) (by omega), Option.bind_some]
    have d1 := Int.emod_nonneg (Int.tdiv (ks[0]'(by omega)) 2940) (show (245 : Int) ≠ 0 by omega)
    have d2 := Int.emod_lt_of_pos (Int.tdiv (ks[0]'(by omega)) 2940) (show (0 : Int) < 245 by omega)
    generalize Int.tdiv (ks[0]'(by omega)) 2940 % 245 = t at d1 d2 ⊢
    obtain ⟨a, b, c, r, rfl, e0, e1, e2⟩ := h.2.2
    have hl3 : (a :: b :: c :: r).length = r.length + 3 := rfl
    rw [if_pos d1, if_pos (by omega), if_pos (by omega)]
    have hset : (a :: b :: c :: r).set (1 : Int).toNat (⟨(rd_T50 (a :: b :: c :: r) 1).f0, strOfNums (List.replicate t.toNat 0)⟩ : S50) = a :: (⟨b.f0, strOfNums (List.replicate t.toNat 0)⟩ : S50) :: c :: r := rfl
    rw [hset]
    refine hp _ ⟨?_, ?_, a, _, c, r, rfl, e0, e1, e2⟩ rfl
    · have := h.1
      simp only [List.pairwise_cons, List.mem_cons, forall_eq_or_imp] at this ⊢
      exact this
    · intro x hx
      simp only [List.mem_cons] at hx
      rcases hx with rfl | rfl | rfl | hx
      · exact h.2.1 _ (by simp)
      · have := h.2.1 b (by simp)
        refine ⟨this.1, this.2.1, ?_⟩
        rw [strOfNums_size, List.length_replicate]
        omega
      · exact h.2.1 _ (by simp)
      · exact h.2.1 _ (by simp [hx])
  · rw [if_neg c]
    exact hp l h rfl
theorem objs_l0 (ks : List Int) (hks : ∀ x ∈ ks, -9223372036854775808 ≤ x ∧ x < 9223372036854775808) : ∀ (d i k : Nat) (l : List S50) (id : Int), i + d = 40 → l.length = i + 3 → 300 * d + 2 ≤ k → OkO l → (∀ x ∈ l, x.f0 ≤ id) → 0 ≤ id → id ≤ 255 → ∃ l', busbarlaw7_Objects.l0 k ks l id (i : Int) = some l' ∧ OkO l' ∧ l'.length ≤ 43 := by
  intro d
  induction d with
  | zero =>
    intro i k l id hi hl hk h hx h0 h1
    obtain ⟨k, rfl⟩ : ∃ m, k = m + 2 := ⟨k - 2, by omega⟩
    have hj : busbarlaw7_Objects.l0 (k + 2) ks l id (i : Int) = busbarlaw7_Objects.j1 (k + 1) ks l id (i : Int) false := by
      rw [busbarlaw7_Objects.l0]
      by_cases c : (i : Int) < (ks.length : Int)
      · rw [if_pos c, decide_eq_false (by omega)]
      · rw [if_neg c]
    rw [hj, busbarlaw7_Objects.j1, if_neg (by decide)]
    exact objs_end ks hks l h (fun z => ∃ l', z = some l' ∧ OkO l' ∧ l'.length ≤ 43) (fun l' h' hl' => ⟨l', rfl, h', by omega⟩)
  | succ d ih =>
    intro i k l id hi hl hk h hx h0 h1
    obtain ⟨k, rfl⟩ : ∃ m, k = m + 2 := ⟨k - 2, by omega⟩
    have hend := objs_end ks hks l h (fun z => ∃ l', z = some l' ∧ OkO l' ∧ l'.length ≤ 43) (fun l' h' hl' => ⟨l', rfl, h', by omega⟩)
    by_cases c : i < ks.length
    · have hm := hks _ (List.getElem_mem c)
      have hj : busbarlaw7_Objects.l0 (k + 2) ks l id (i : Int) = busbarlaw7_Objects.j1 (k + 1) ks l id (i : Int) true := by
        rw [busbarlaw7_Objects.l0, if_pos (by omega), decide_eq_true (by omega)]
      have m1 := Int.emod_nonneg ks[i] (show (12 : Int) ≠ 0 by omega)
      have m2 := Int.emod_lt_of_pos ks[i] (show (0 : Int) < 12 by omega)
      rw [hj, busbarlaw7_Objects.j1, if_pos rfl, if_pos (by omega), if_pos (by omega), rd_get ks i c, within_eq _ 12 (by omega) (by omega), Option.bind_some]
      generalize ks[i] % 12 = e at m1 m2 ⊢
      rw [wrap64_id (x := id + 1) (by omega) (by omega), wrap64_id (x := id + 1 + e) (by omega) (by omega)]
      by_cases hid : id + 1 + e > 255
      · rw [if_pos hid]
        exact hend
      · rw [if_neg hid, digit_eq _ 12 245 hm (by omega) (by omega) (by omega), Option.bind_some]
        have d1 := Int.emod_nonneg (Int.tdiv ks[i] 12) (show (245 : Int) ≠ 0 by omega)
        have d2 := Int.emod_lt_of_pos (Int.tdiv ks[i] 12) (show (0 : Int) < 245 by omega)
        generalize Int.tdiv ks[i] 12 % 245 = t at d1 d2 ⊢
        rw [if_pos d1, if_pos (by omega)]
        obtain ⟨t, rfl⟩ := Int.eq_ofNat_of_zero_le d1
        rw [Int.toNat_natCast]
        obtain ⟨b', hb1, hb2⟩ := objs_l1 ks l (id + 1 + e) (i : Int) (by omega) t 0 (k - t - 1) (List.replicate t 0) (by simp) (by simp; omega)
        rw [List.length_replicate] at hb1
        have hk' : k - t - 1 + t + 1 = k := by omega
        rw [hk'] at hb2
        rw [show ((0 : Nat) : Int) = 0 from rfl] at hb2
        rw [hb2, wrap64_id (x := (i : Int) + 1) (by omega) (by omega)]
        obtain ⟨a, b, c', r, rfl, e0, e1, e2⟩ := h.2.2
        refine ih (i + 1) (k - t - 1) _ (id + 1 + e) (by omega) (by rw [List.length_append, hl]; simp) (by omega) ⟨?_, ?_, a, b, c', r ++ [_], rfl, e0, e1, e2⟩ ?_ (by omega) (by omega)
        · refine List.pairwise_append.2 ⟨h.1, List.pairwise_singleton _ _, fun x hx' y hy => ?_⟩
          rw [List.mem_singleton] at hy
          subst hy
          have := hx x hx'
          dsimp only
          omega
        · intro x hx'
          rcases List.mem_append.1 hx' with hx' | hx'
          · exact h.2.1 x hx'
          · rw [List.mem_singleton] at hx'
            subst hx'
            refine ⟨by dsimp only; omega, by dsimp only; omega, ?_⟩
            dsimp only
            rw [strOfNums_size, hb1]
            omega
        · intro x hx'
          rcases List.mem_append.1 hx' with hx' | hx'
          · have := hx x hx'
            omega
          · rw [List.mem_singleton] at hx'
            subst hx'
            exact Int.le_refl _
    · have hj : busbarlaw7_Objects.l0 (k + 2) ks l id (i : Int) = busbarlaw7_Objects.j1 (k + 1) ks l id (i : Int) false := by
        rw [busbarlaw7_Objects.l0, if_neg (by omega)]
      rw [hj, busbarlaw7_Objects.j1, if_neg (by decide)]
      exact hend
theorem objs_f (ks : List Int) (hks : ∀ x ∈ ks, -9223372036854775808 ≤ x ∧ x < 9223372036854775808) {k : Nat} (hk : 12010 ≤ k) : ∃ l, busbarlaw7_Objects.f k ks = some l ∧ OkO l ∧ l.length ≤ 43 := by
  refine objs_l0 ks hks 40 0 k _ 2 rfl rfl (by omega) ⟨?_, ?_, _, _, _, [], rfl, rfl, rfl, rfl⟩ ?_ (by omega) (by omega)
  · simp
  · intro x hx
    simp only [List.mem_cons, List.not_mem_nil, or_false] at hx
    rcases hx with rfl | rfl | rfl <;> exact ⟨by decide, by decide, by decide⟩
  · intro x hx
    simp only [List.mem_cons, List.not_mem_nil, or_false] at hx
    rcases hx with rfl | rfl | rfl <;> decide
def cmap : List S46 := [(⟨0, 0, 40⟩ : S46), (⟨1, 0, 40⟩ : S46), (⟨2, 0, 20⟩ : S46), (⟨2, 24, 40⟩ : S46), (⟨3, 0, 40⟩ : S46)]
def cgrp : List S48 := [(⟨2, 4, 2⟩ : S48), (⟨2, 8, 4⟩ : S48), (⟨3, 4, 4⟩ : S48)]
theorem cmap_ok : chk cmap 100 = 0 := by decide +kernel
theorem cgrp_ok : gchk cgrp cmap = 0 := by decide +kernel
def uobj : List S50 := [(⟨0, (⟨#[98, 117, 115, 98, 97, 114]⟩ : ByteArray)⟩ : S50), (⟨1, (⟨#[98, 49]⟩ : ByteArray)⟩ : S50), (⟨2, (⟨#[49, 46, 48]⟩ : ByteArray)⟩ : S50)]
theorem usual_5 : busbarref12_Usual.f 5 = some ([(⟨0, 0, 1000⟩ : S46), (⟨1, 0, 1000⟩ : S46), (⟨2, 0, 1000⟩ : S46), (⟨3, 0, 1000⟩ : S46)], [], 60000, 100, 32, 8, 10000, 100, 500, 1024, 1024, 0, uobj) := by kernel_rfl
theorem usual_ev {k : Nat} (h : 5 ≤ k) : busbarref12_Usual.f k = some ([(⟨0, 0, 1000⟩ : S46), (⟨1, 0, 1000⟩ : S46), (⟨2, 0, 1000⟩ : S46), (⟨3, 0, 1000⟩ : S46)], [], 60000, 100, 32, 8, 10000, 100, 500, 1024, 1024, 0, uobj) := at_rounds (g := fun k => busbarref12_Usual.f k) busbarref12_Usual.mono h usual_5
theorem at_eq (ks : List Int) (hks : ∀ x ∈ ks, -9223372036854775808 ≤ x ∧ x < 9223372036854775808) (hl : ks.length ≤ 9223372036854775807) (i : Nat) : ∃ v, busbarlaw0_At.f ks (i : Int) = some v ∧ -9223372036854775808 ≤ v ∧ v < 9223372036854775808 := by
  unfold busbarlaw0_At.f
  rw [if_neg (by omega)]
  by_cases h : i < ks.length
  · rw [if_neg (by omega), if_pos (by omega), if_pos (by omega), rd_get ks i h]
    exact ⟨_, rfl, hks _ (List.getElem_mem h)⟩
  · rw [if_pos (by omega)]
    exact ⟨0, rfl, by omega, by omega⟩
theorem law_conf (ks : List Int) (hks : ∀ x ∈ ks, -9223372036854775808 ≤ x ∧ x < 9223372036854775808) (hl : ks.length ≤ 9223372036854775807) {k : Nat} (hk : 10 ≤ k) : ∃ a3 a4 a5 a6 a7 a8 a11, busbarlaw0_Conf.f k ks = some (cmap, cgrp, 100, a3, a4, a5, a6, a7, a8, 1024, 1024, a11, uobj) ∧ InR a3 a4 a5 a6 a7 a8 1024 1024 := by
  obtain ⟨k, rfl⟩ : ∃ m, k = m + 2 := ⟨k - 2, by omega⟩
  obtain ⟨v0, h0, b0⟩ := at_eq ks hks hl 0
  obtain ⟨v1, h1, b1⟩ := at_eq ks hks hl 1
  obtain ⟨v2, h2, b2⟩ := at_eq ks hks hl 2
  obtain ⟨v3, h3, b3⟩ := at_eq ks hks hl 3
  rw [show ((0 : Nat) : Int) = 0 from rfl] at h0
  rw [show ((1 : Nat) : Int) = 1 from rfl] at h1
  rw [show ((2 : Nat) : Int) = 2 from rfl] at h2
  rw [show ((3 : Nat) : Int) = 3 from rfl] at h3
  have p1 := Int.emod_nonneg v0 (show (12 : Int) ≠ 0 by omega)
  have p2 := Int.emod_lt_of_pos v0 (show (0 : Int) < 12 by omega)
  have q1 := Int.emod_nonneg (Int.tdiv v0 12) (show (5 : Int) ≠ 0 by omega)
  have q2 := Int.emod_lt_of_pos (Int.tdiv v0 12) (show (0 : Int) < 5 by omega)
  have r1 := Int.emod_nonneg v1 (show (6 : Int) ≠ 0 by omega)
  have r2 := Int.emod_lt_of_pos v1 (show (0 : Int) < 6 by omega)
  have s1 := Int.emod_nonneg (Int.tdiv v1 6) (show (20 : Int) ≠ 0 by omega)
  have s2 := Int.emod_lt_of_pos (Int.tdiv v1 6) (show (0 : Int) < 20 by omega)
  have t1 := Int.emod_nonneg (Int.tdiv v2 4) (show (60 : Int) ≠ 0 by omega)
  have t2 := Int.emod_lt_of_pos (Int.tdiv v2 4) (show (0 : Int) < 60 by omega)
  have u1 := Int.emod_nonneg (Int.tdiv v2 240) (show (6 : Int) ≠ 0 by omega)
  have u2 := Int.emod_lt_of_pos (Int.tdiv v2 240) (show (0 : Int) < 6 by omega)
  have hj1 : ∀ a3 a4 a5 a6 a7 a8 : Int, InR a3 1 a5 a6 a7 a8 1024 1024 → ∃ a3' a4' a5' a6' a7' a8' a11', busbarlaw0_Conf.j1 (k + 1) ks cmap cgrp 100 a3 a4 a5 a6 a7 a8 1024 1024 0 uobj = some (cmap, cgrp, 100, a3', a4', a5', a6', a7', a8', 1024, 1024, a11', uobj) ∧ InR a3' a4' a5' a6' a7' a8' 1024 1024 := by
    intro a3 a4 a5 a6 a7 a8 h
    have hI : InR a3 (1 + Int.tdiv v2 240 % 6) a5 a6 a7 a8 1024 1024 := by
      unfold InR at h ⊢
      omega
    rw [busbarlaw0_Conf.j1, h2, Option.bind_some, digit_eq v2 240 6 b2 (by omega) (by omega) (by omega), Option.bind_some, h3, Option.bind_some, within_eq v3 9 (by omega) (by omega), Option.bind_some, Option.bind_some, digit_eq v3 9 6 b3 (by omega) (by omega) (by omega), Option.bind_some, wrap64_id (x := 1 + Int.tdiv v2 240 % 6) (by omega) (by omega)]
    by_cases c : Int.tdiv v3 9 % 6 = 0
    · rw [if_pos c]
      exact ⟨_, _, _, _, _, _, _, rfl, hI⟩
    · rw [if_neg c]
      exact ⟨_, _, _, _, _, _, _, rfl, hI⟩
  have hj0 : ∀ a3 a4 a5 a7 a8 : Int, InR a3 1 a5 2000 a7 a8 1024 1024 → ∃ a3' a4' a5' a6' a7' a8' a11', busbarlaw0_Conf.j0 (k + 2) ks cmap cgrp 100 a3 a4 a5 2000 a7 a8 1024 1024 0 uobj = some (cmap, cgrp, 100, a3', a4', a5', a6', a7', a8', 1024, 1024, a11', uobj) ∧ InR a3' a4' a5' a6' a7' a8' 1024 1024 := by
    intro a3 a4 a5 a7 a8 h
    rw [busbarlaw0_Conf.j0, h2, Option.bind_some, within_eq v2 4 (by omega) (by omega), Option.bind_some]
    by_cases c : v2 % 4 = 0
    · rw [if_pos c, Option.bind_some, digit_eq v2 4 60 b2 (by omega) (by omega) (by omega), Option.bind_some]
      exact hj1 _ _ _ _ _ _ (by unfold InR at h ⊢; omega)
    · rw [if_neg c]
      exact hj1 _ _ _ _ _ _ h
  unfold busbarlaw0_Conf.f
  rw [usual_ev (by omega), Option.bind_some, Option.bind_some, Option.bind_some, h0, Option.bind_some, within_eq v0 12 (by omega) (by omega), Option.bind_some, Option.bind_some, digit_eq v0 12 5 b0 (by omega) (by omega) (by omega), Option.bind_some, h1, Option.bind_some, within_eq v1 6 (by omega) (by omega), Option.bind_some, Option.bind_some, digit_eq v1 6 20 b1 (by omega) (by omega) (by omega), Option.bind_some, Option.bind_some, digit_eq v1 120 3 b1 (by omega) (by omega) (by omega), Option.bind_some]
  have w1 : wrap64 (1 + v0 % 12) = 1 + v0 % 12 := wrap64_id (by omega) (by omega)
  have w2 : wrap64 (1 + v1 % 6) = 1 + v1 % 6 := wrap64_id (by omega) (by omega)
  have w3 : wrap64 (1 + Int.tdiv v1 6 % 20) = 1 + Int.tdiv v1 6 % 20 := wrap64_id (by omega) (by omega)
  rw [w1]
  by_cases c : Int.tdiv v1 120 % 3 > 0
  · rw [if_pos c]
    exact hj0 _ _ _ _ _ (by unfold InR; omega)
  · rw [if_neg c, w2, w3]
    exact hj0 _ _ _ _ _ (by unfold InR; omega)
theorem conf_zero (k : Nat) (a3 a4 a5 a6 a7 a8 a11 : Int) (o : List S50) (h : InR a3 a4 a5 a6 a7 a8 1024 1024) (ho : OkO o) (hl : o.length ≤ 43) (hk : 9000 ≤ k) : conf_Check.f k cmap cgrp 100 a3 a4 a5 a6 a7 a8 1024 1024 a11 o = some 0 := by
  obtain ⟨k, rfl⟩ : ∃ j, k = j + 1 := ⟨k - 1, by omega⟩
  have hm : cmap.length = 5 := rfl
  have hg : cgrp.length = 3 := rfl
  rw [conf_f, if_pos h]
  unfold tail
  rw [check_any cmap 100 (by omega) (by omega), Option.bind_some, cmap_ok, if_pos rfl, gcheck_eq cgrp cmap (by omega) (by omega) (by omega), Option.bind_some, cgrp_ok, if_pos rfl, iden_ok o (by omega) ho (by omega), Option.bind_some]
theorem few_l (m : List S46) (g : List S48) (w a3 a4 a5 a6 a7 a8 a9 a10 a11 : Int) (o : List S50) : ∀ (d i k : Nat), i + d = 61 → 2 * d + 2 ≤ k → ∃ b, busbarlaw15_few.l0 k (i : Int) m g w a3 a4 a5 a6 a7 a8 a9 a10 a11 o = some b ∧ (b = true → m.length ≤ 40 ∧ g.length ≤ 40 ∧ o.length ≤ 60)
  | d, i, k, hi, hk => by
    obtain ⟨k, rfl⟩ : ∃ j, k = j + 2 := ⟨k - 2, by omega⟩
    have hend : ∃ b, busbarlaw15_few.j1 (k + 1) (i : Int) false m g w a3 a4 a5 a6 a7 a8 a9 a10 a11 o = some b ∧ (b = true → m.length ≤ 40 ∧ g.length ≤ 40 ∧ o.length ≤ 60) := by
      rw [busbarlaw15_few.j1, if_neg (by decide)]
      by_cases h1 : (m.length : Int) ≤ 40
      · rw [if_pos h1]
        by_cases h2 : (g.length : Int) ≤ 40
        · rw [if_pos h2]
          exact ⟨_, rfl, fun h => ⟨by omega, by omega, by have := of_decide_eq_true h; omega⟩⟩
        · rw [if_neg h2]
          exact ⟨false, rfl, fun h => by cases h⟩
      · rw [if_neg h1]
        exact ⟨false, rfl, fun h => by cases h⟩
    rw [busbarlaw15_few.l0]
    by_cases h : (i : Int) < (o.length : Int)
    · rw [if_pos h]
      cases d with
      | zero =>
        rw [decide_eq_false (by omega)]
        exact hend
      | succ d =>
        rw [decide_eq_true (by omega), busbarlaw15_few.j1, if_pos rfl, if_pos (by omega), if_pos h]
        by_cases h2 : (((rd_T50 o (i : Int)).f1).size : Int) > 300
        · rw [if_pos h2]
          exact ⟨false, rfl, fun h => by cases h⟩
        · rw [if_neg h2, wrap64_id (by omega) (by omega)]
          exact few_l m g w a3 a4 a5 a6 a7 a8 a9 a10 a11 o d (i + 1) k (by omega) (by omega)
    · rw [if_neg h]
      exact hend
theorem few_f (m : List S46) (g : List S48) (w a3 a4 a5 a6 a7 a8 a9 a10 a11 : Int) (o : List S50) {k : Nat} (hk : 124 ≤ k) : ∃ b, busbarlaw15_few.f k m g w a3 a4 a5 a6 a7 a8 a9 a10 a11 o = some b ∧ (b = true → m.length ≤ 40 ∧ g.length ≤ 40 ∧ o.length ≤ 60) := few_l m g w a3 a4 a5 a6 a7 a8 a9 a10 a11 o 61 0 k rfl (by omega)
end Go.Proofs.Ytjlbgopgeepiaaa.LemConfConf
set_option linter.unusedVariables false
namespace Go.Proofs.Ytjlbgopgeepiaaa.LemAwakeConf
open Go.RowKit Go.Proofs.Ytjlbgopgeepiaaa.PConf Go.Proofs.YtjlbgopgeepiaaaW.PrintWords Go.Proofs.YtjlbgopgeepiaaaW.PrintLast Go.Proofs.YtjlbgopgeepiaaaW.PrintMore
theorem awake_20 : busbarlaw15_awake.f 20 = some true := by decide +kernel
theorem awake_ev {k : Nat} (h : 20 ≤ k) : busbarlaw15_awake.f k = some true := at_rounds busbarlaw15_awake.mono h awake_20
end Go.Proofs.Ytjlbgopgeepiaaa.LemAwakeConf
namespace Go.Proofs.Ytjlbgopgeepiaaa.Pure
open Go.RowKit Go.Proofs.Ytjlbgopgeepiaaa.PConf Go.Proofs.YtjlbgopgeepiaaaW.PrintWords Go.Proofs.YtjlbgopgeepiaaaW.PrintLast Go.Proofs.Ytjlbgopgeepiaaa.Num Go.Proofs.Ytjlbgopgeepiaaa.LemWithinConf Go.Proofs.Ytjlbgopgeepiaaa.LemConfConf
theorem cc_j2 (k : Nat) (m : List S46) (g : List S48) (w a3 a4 a5 a6 a7 a8 a9 a10 a11 : Int) (o : List S50) (hm : m.length ≤ 1000) (hg : g.length ≤ 1000) (ho : o.length ≤ 1000) (hk : 9001 ≤ k) : busbarlaw15_ConfChecks.j2 k m g w a3 a4 a5 a6 a7 a8 a9 a10 a11 o = some true := by
  obtain ⟨k, rfl⟩ : ∃ j, k = j + 1 := ⟨k - 1, by omega⟩
  obtain ⟨v, h1, h2⟩ := conf_eq m g w a3 a4 a5 a6 a7 a8 a9 a10 a11 o hm hg ho (k := k) (by omega)
  rw [busbarlaw15_ConfChecks.j2, h1, Option.bind_some, h2, Option.bind_some, beq_self_eq_true]
theorem cc_j1 (k : Nat) (wh n : Int) (m : List S46) (g : List S48) (w a3 a4 a5 a6 a7 a8 a9 a10 a11 : Int) (o : List S50) (hm : m.length ≤ 1000) (hg : g.length ≤ 1000) (ho : o.length ≤ 1000) (hk : 9002 ≤ k) : busbarlaw15_ConfChecks.j1 k wh n m g w a3 a4 a5 a6 a7 a8 a9 a10 a11 o = some true := by
  obtain ⟨k, rfl⟩ : ∃ j, k = j + 1 := ⟨k - 1, by omega⟩
  rw [busbarlaw15_ConfChecks.j1, within_eq wh 9 (by omega) (by omega), Option.bind_some]
  repeat' first
  | exact cc_j2 k _ _ _ _ _ _ _ _ _ _ _ _ _ hm hg ho (by omega)
  | split
theorem ConfChecks : busbarlaw15_ConfChecks.Pure := by
  intro x ks wh n near hx hk hw hn
  have hks : ∀ x ∈ ks, -9223372036854775808 ≤ x ∧ x < 9223372036854775808 := fun x hx => wf_i64 (hk.2 x hx)
  have hl : ks.length ≤ 9223372036854775807 := by have := hk.1; unfold maxLen at this; omega
  clear hx hk hw hn
  refine ⟨20000, ?_⟩
  unfold busbarlaw15_ConfChecks.f
  obtain ⟨b, hb, hf⟩ := few_f x.f0 x.f1 x.f2 x.f3 x.f4 x.f5 x.f6 x.f7 x.f8 x.f9 x.f10 x.f11 x.f12 (k := 20000) (by omega)
  rw [hb, Option.bind_some]
  cases b with
  | false => rw [if_neg (by decide), busbarlaw15_ConfChecks.j0, if_pos rfl, LemAwakeConf.awake_ev (by omega), Option.bind_some]
  | true =>
    obtain ⟨l1, l2, l3⟩ := hf rfl
    rw [if_pos rfl, LemAwakeConf.awake_ev (by omega), Option.bind_some, Bool.not_true, busbarlaw15_ConfChecks.j0, if_neg (by decide)]
    obtain ⟨v, h1, h2⟩ := conf_eq x.f0 x.f1 x.f2 x.f3 x.f4 x.f5 x.f6 x.f7 x.f8 x.f9 x.f10 x.f11 x.f12 (by omega) (by omega) (by omega) (k := 19999) (by omega)
    obtain ⟨a3, a4, a5, a6, a7, a8, a11, hc, hI⟩ := law_conf ks hks hl (k := 19999) (by omega)
    obtain ⟨o, ho, hok, hol⟩ := objs_f ks hks (k := 19999) (by omega)
    rw [h1, Option.bind_some, h2, Option.bind_some, if_pos rfl, hc, Option.bind_some, ho, Option.bind_some]
    dsimp only
    rw [conf_zero 19999 a3 a4 a5 a6 a7 a8 a11 o hI hok hol (by omega), Option.bind_some, if_pos rfl]
    have hm : cmap.length = 5 := rfl
    have hg : cgrp.length = 3 := rfl
    cases near with
    | false =>
      rw [if_neg (by decide)]
      exact cc_j1 _ _ _ _ _ _ _ _ _ _ _ _ _ _ _ _ (by omega) (by omega) (by omega) (by omega)
    | true =>
      have d1 := Int.emod_nonneg n (show (8 : Int) ≠ 0 by omega)
      have d2 := Int.emod_lt_of_pos n (show (0 : Int) < 8 by omega)
      rw [if_pos rfl, within_eq n 8 (by omega) (by omega), Option.bind_some, if_pos d1, if_pos d2]
      exact cc_j1 _ _ _ _ _ _ _ _ _ _ _ _ _ _ _ _ (by omega) (by omega) (by omega) (by omega)
end Go.Proofs.Ytjlbgopgeepiaaa.Pure
