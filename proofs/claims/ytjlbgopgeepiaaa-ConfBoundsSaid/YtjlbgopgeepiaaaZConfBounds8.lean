/- Words and walks for ConfBounds (made of the session's own texts; each part by itself). -/
import Derived.RowKit
import Derived.Laws.BitsAllLaws
import Derived.Laws.BitsLemmas
import Derived.Deep.DeepCutAuto
import Derived.Test.YtjlbgopgeepiaaaZConfBounds7
set_option linter.unusedVariables false
namespace Go.Proofs.Ytjlbgopgeepiaaa.Num
open Go.RowKit Go.Proofs.YtjlbgopgeepiaaaW.PrintWords Go.Proofs.YtjlbgopgeepiaaaW.PrintMore
theorem wrap64_id {x : Int} (h1 : -9223372036854775808 ≤ x) (h2 : x < 9223372036854775808) : wrap64 x = x := by unfold wrap64; omega
theorem rd_get (l : List Int) (i : Nat) (h : i < l.length) : rd l (i : Int) = l[i] := by simp [rd, List.getD_eq_getElem?_getD, List.getElem?_eq_getElem h]
def raw (l : List Int) : List Int := l.flatMap fun w => [w / 256, w % 256]
end Go.Proofs.Ytjlbgopgeepiaaa.Num
set_option linter.unusedVariables false
set_option linter.unusedSimpArgs false
namespace Go.Proofs.Ytjlbgopgeepiaaa.LemIdenConf
open Go.RowKit Go.Proofs.Ytjlbgopgeepiaaa.PConf Go.Proofs.YtjlbgopgeepiaaaW.PrintWords Go.Proofs.YtjlbgopgeepiaaaW.PrintLast Go.Proofs.YtjlbgopgeepiaaaW.PrintMore Go.Proofs.Ytjlbgopgeepiaaa.Num
theorem rd50 (l : List S50) (i : Nat) (h : i < l.length) : rd_T50 l (i : Int) = l[i] := by
  unfold rd_T50
  rw [Int.toNat_natCast, List.getD_eq_getElem?_getD, List.getElem?_eq_getElem h, Option.getD_some]
def Rise (l : List S50) (n : Nat) : Prop := ∀ i, (hi : i < l.length) → i < n → 0 ≤ l[i].f0 ∧ l[i].f0 ≤ 255 ∧ (∀ j, (hj : j < i) → l[j].f0 < l[i].f0)
theorem placeAt_neg (id : Int) : ∀ (l : List S50) (i : Nat), (placeAt id l i < 0) ↔ ∀ x ∈ l, x.f0 ≠ id
  | [], i => by simp [placeAt]
  | x :: l, i => by
    have ih := placeAt_neg id l (i + 1)
    unfold placeAt
    by_cases h : x.f0 = id
    · rw [if_pos h]
      constructor
      · intro c; omega
      · intro c; exact absurd h (c x List.mem_cons_self)
    · rw [if_neg h, ih]
      constructor
      · intro c y hy
        rcases List.mem_cons.1 hy with rfl | hy
        · exact h
        · exact c y hy
      · intro c y hy
        exact c y (List.mem_cons_of_mem _ hy)
theorem iden_l2 (l : List S50) (hl : l.length ≤ 100000) (hr : Rise l l.length) : ∀ (d i k : Nat), i + d = 3 → d < k → (∀ j, (hj : j < l.length) → j < i → l[j].f0 = (j : Int)) → i ≤ l.length → ∃ v, iden_Check.l2 k l (i : Int) = some v ∧ busbarref5_Objects.l2 k l (i : Int) = some v
  | 0, i, k, hi, hk, hp, hil => by
    obtain ⟨k, rfl⟩ : ∃ m, k = m + 1 := ⟨k - 1, by omega⟩
    exact ⟨0, by rw [iden_Check.l2, if_neg (by omega)], by rw [busbarref5_Objects.l2, if_neg (by omega)]⟩
  | d + 1, i, k, hi, hk, hp, hil => by
    obtain ⟨k, rfl⟩ : ∃ m, k = m + 1 := ⟨k - 1, by omega⟩
    have hf : iden_place.f l (i : Int) = some (placeAt (i : Int) l 0) := rfl
    have hn := placeAt_neg (i : Int) l 0
    by_cases hlen : i < l.length
    · by_cases hq : l[i].f0 = (i : Int)
      · have hnn : ¬ placeAt (i : Int) l 0 < 0 := fun c => hn.1 c l[i] (List.getElem_mem hlen) hq
        obtain ⟨v, h1, h2⟩ := iden_l2 l hl hr d (i + 1) k (by omega) (by omega) (fun j hj hji => by
          by_cases c : j = i
          · subst c; exact hq
          · exact hp j hj (by omega)) (by omega)
        refine ⟨v, ?_, ?_⟩
        · rw [iden_Check.l2, if_pos (by omega), hf, Option.bind_some, if_neg hnn, wrap64_id (by omega) (by omega)]
          exact h1
        · rw [busbarref5_Objects.l2, if_pos (by omega), if_neg (by omega), if_pos (by omega), if_pos (by omega), rd50 l i hlen, if_pos hq, wrap64_id (by omega) (by omega)]
          exact h2
      · have hneg : placeAt (i : Int) l 0 < 0 := by
          refine hn.2 fun x hx => ?_
          obtain ⟨j, hj, rfl⟩ := List.mem_iff_getElem.1 hx
          intro c
          rcases Nat.lt_trichotomy j i with q | q | q
          · have := hp j hj q
            omega
          · subst q; exact hq c
          · have r1 := (hr j hj hj).2.2 i q
            have r2 : (i : Int) ≤ l[i].f0 := by
              rcases Nat.eq_zero_or_pos i with z | z
              · have := (hr i hlen hlen).1
                omega
              · have := (hr i hlen hlen).2.2 (i - 1) (by omega)
                have := hp (i - 1) (by omega) (by omega)
                omega
            omega
        exact ⟨5, by rw [iden_Check.l2, if_pos (by omega), hf, Option.bind_some, if_pos hneg], by rw [busbarref5_Objects.l2, if_pos (by omega), if_neg (by omega), if_pos (by omega), if_pos (by omega), rd50 l i hlen, if_neg hq]⟩
    · have hneg : placeAt (i : Int) l 0 < 0 := by
        refine hn.2 fun x hx => ?_
        obtain ⟨j, hj, rfl⟩ := List.mem_iff_getElem.1 hx
        intro c
        have := hp j hj (by omega)
        omega
      exact ⟨5, by rw [iden_Check.l2, if_pos (by omega), hf, Option.bind_some, if_pos hneg], by rw [busbarref5_Objects.l2, if_pos (by omega), if_pos (by omega)]⟩
theorem iden_l1 (l : List S50) (hl : l.length ≤ 100000) (hr : Rise l l.length) : ∀ (d i k : Nat), i + d = l.length → d + 5 ≤ k → ∃ v, iden_Check.l1 k l l (l.length : Int) (i : Int) = some v ∧ busbarref5_Objects.l1 k l (i : Int) = some v
  | 0, i, k, hi, hk => by
    obtain ⟨k, rfl⟩ : ∃ m, k = m + 1 := ⟨k - 1, by omega⟩
    obtain ⟨v, h1, h2⟩ := iden_l2 l hl hr 3 0 k (by omega) (by omega) (fun j hj hji => by omega) (by omega)
    exact ⟨v, by rw [iden_Check.l1, if_neg (by omega)]; exact h1, by rw [busbarref5_Objects.l1, if_neg (by omega)]; exact h2⟩
  | d + 1, i, k, hi, hk => by
    obtain ⟨k, rfl⟩ : ∃ m, k = m + 1 := ⟨k - 1, by omega⟩
    obtain ⟨v, h1, h2⟩ := iden_l1 l hl hr d (i + 1) k (by omega) (by omega)
    by_cases h : (((rd_T50 l (i : Int)).f1).size : Int) > 244
    · exact ⟨4, by rw [iden_Check.l1, if_pos (by omega), if_pos (by omega), if_pos (by omega), if_pos h], by rw [busbarref5_Objects.l1, if_pos (by omega), if_pos (by omega), if_pos h]⟩
    · exact ⟨v, by rw [iden_Check.l1, if_pos (by omega), if_pos (by omega), if_pos (by omega), if_neg h, wrap64_id (by omega) (by omega)]; exact h1, by rw [busbarref5_Objects.l1, if_pos (by omega), if_pos (by omega), if_neg h, wrap64_id (by omega) (by omega)]; exact h2⟩
theorem byteful_eq (x : Int) : busbarref5_byteful.f x = some (decide (0 ≤ x ∧ x ≤ 255)) := by
  unfold busbarref5_byteful.f
  by_cases h : x ≥ 0
  · rw [if_pos h]
    congr 1
    rw [decide_eq_decide]
    omega
  · rw [if_neg h, decide_eq_false (by omega)]
theorem iden_l0 (l : List S50) (hl : l.length ≤ 100000) : ∀ (d i k : Nat), i + d = l.length → 2 * d + l.length + 8 ≤ k → Rise l i → ∃ v, iden_Check.l0 k l l (l.length : Int) (i : Int) = some v ∧ busbarref5_Objects.l0 k l (i : Int) = some v
  | 0, i, k, hi, hk, hr => by
    obtain ⟨k, rfl⟩ : ∃ m, k = m + 1 := ⟨k - 1, by omega⟩
    obtain ⟨v, h1, h2⟩ := iden_l1 l hl (by rw [show l.length = i by omega]; exact hr) l.length 0 k (by omega) (by omega)
    exact ⟨v, by rw [iden_Check.l0, if_neg (by omega)]; exact h1, by rw [busbarref5_Objects.l0, if_neg (by omega)]; exact h2⟩
  | d + 1, i, k, hi, hk, hr => by
    obtain ⟨k, rfl⟩ : ∃ m, k = m + 1 := ⟨k - 1, by omega⟩
    have hlen : i < l.length := by omega
    have e1 := fun (P : Option Int → Prop) (h : P (if l[i].f0 < 0 then some 1 else if l[i].f0 > 255 then some 1 else if (i : Int) > 0 then (if 0 ≤ (wrap64 ((i : Int) - 1)) then (if (wrap64 ((i : Int) - 1)) < (l.length : Int) then (if l[i].f0 ≤ ((rd_T50 l (wrap64 ((i : Int) - 1))).f0) then some 1 else iden_Check.l0 k l l (l.length : Int) (wrap64 ((i : Int) + 1))) else none) else none) else iden_Check.l0 k l l (l.length : Int) (wrap64 ((i : Int) + 1)))) => show P (iden_Check.l0 (k + 1) l l (l.length : Int) (i : Int)) by
      rw [iden_Check.l0, if_pos (by omega), if_pos (by omega), if_pos (by omega), rd50 l i hlen]; exact h
    by_cases hb : 0 ≤ l[i].f0 ∧ l[i].f0 ≤ 255
    · have hnext : Rise l (i + 1) → ∃ v, iden_Check.l0 k l l (l.length : Int) (((i + 1 : Nat) : Int)) = some v ∧ busbarref5_Objects.l0 k l (((i + 1 : Nat) : Int)) = some v := fun h => iden_l0 l hl d (i + 1) k (by omega) (by omega) h
      have ec : wrap64 ((i : Int) + 1) = ((i + 1 : Nat) : Int) := by rw [wrap64_id (by omega) (by omega)]; omega
      by_cases h0 : (i : Int) > 0
      · have hp : wrap64 ((i : Int) - 1) = ((i - 1 : Nat) : Int) := by rw [wrap64_id (by omega) (by omega)]; omega
        by_cases hc : l[i].f0 ≤ l[i - 1].f0
        · refine ⟨1, e1 (fun z => z = some 1) ?_, ?_⟩
          · rw [if_neg (by omega), if_neg (by omega), if_pos h0, hp, if_pos (by omega), if_pos (by omega), rd50 l (i - 1) (by omega), if_pos hc]
          · rw [busbarref5_Objects.l0, if_pos (by omega), if_pos (by omega), rd50 l i hlen, byteful_eq, Option.bind_some, decide_eq_true hb, if_pos rfl, if_pos h0, hp, if_pos (by omega), if_pos (by omega), rd50 l (i - 1) (by omega), if_pos (by omega)]
        · obtain ⟨v, h1, h2⟩ := hnext (fun j hj hji => by
            by_cases c : j = i
            · subst c
              refine ⟨hb.1, hb.2, fun q hq => ?_⟩
              by_cases e : q = j - 1
              · subst e; omega
              · have := (hr (j - 1) (by omega) (by omega)).2.2 q (by omega)
                omega
            · exact hr j hj (by omega))
          refine ⟨v, e1 (fun z => z = some v) ?_, ?_⟩
          · rw [if_neg (by omega), if_neg (by omega), if_pos h0, hp, if_pos (by omega), if_pos (by omega), rd50 l (i - 1) (by omega), if_neg hc, ec]
            exact h1
          · rw [busbarref5_Objects.l0, if_pos (by omega), if_pos (by omega), rd50 l i hlen, byteful_eq, Option.bind_some, decide_eq_true hb, if_pos rfl, if_pos h0, hp, if_pos (by omega), if_pos (by omega), rd50 l (i - 1) (by omega), if_neg (by omega), ec]
            exact h2
      · obtain ⟨v, h1, h2⟩ := hnext (fun j hj hji => by
          have : j = i := by omega
          subst this
          exact ⟨hb.1, hb.2, fun q hq => by omega⟩)
        refine ⟨v, e1 (fun z => z = some v) ?_, ?_⟩
        · rw [if_neg (by omega), if_neg (by omega), if_neg h0, ec]
          exact h1
        · rw [busbarref5_Objects.l0, if_pos (by omega), if_pos (by omega), rd50 l i hlen, byteful_eq, Option.bind_some, decide_eq_true hb, if_pos rfl, if_neg h0, ec]
          exact h2
    · refine ⟨1, e1 (fun z => z = some 1) ?_, ?_⟩
      · by_cases c : l[i].f0 < 0
        · rw [if_pos c]
        · rw [if_neg c, if_pos (by omega)]
      · rw [busbarref5_Objects.l0, if_pos (by omega), if_pos (by omega), rd50 l i hlen, byteful_eq, Option.bind_some, decide_eq_false hb, if_neg (by decide)]
theorem iden_eq (l : List S50) (hl : l.length ≤ 100000) {k : Nat} (hk : 3 * l.length + 8 ≤ k) : ∃ v, iden_Check.f k l = some v ∧ busbarref5_Objects.f k l = some v := iden_l0 l hl l.length 0 k (by omega) (by omega) (fun j hj hji => by omega)
end Go.Proofs.Ytjlbgopgeepiaaa.LemIdenConf
set_option linter.unusedVariables false
set_option linter.unusedSimpArgs false
namespace Go.Proofs.Ytjlbgopgeepiaaa.LemSpanConf
open Go.RowKit Go.Proofs.Ytjlbgopgeepiaaa.PConf Go.Proofs.YtjlbgopgeepiaaaW.PrintWords Go.Proofs.YtjlbgopgeepiaaaW.PrintLast Go.Proofs.YtjlbgopgeepiaaaW.PrintMore Go.Proofs.Ytjlbgopgeepiaaa.Num
abbrev S := S46
def Rt (s : S) : Prop := 0 ≤ s.f0 ∧ s.f0 < 4 ∧ 0 ≤ s.f1 ∧ s.f2 ≤ 65536 ∧ s.f1 < s.f2
instance (s : S) : Decidable (Rt s) := by unfold Rt; infer_instance
def Ah (a b : S) : Prop := a.f0 < b.f0 ∨ (a.f0 = b.f0 ∧ a.f2 < b.f1)
instance (a b : S) : Decidable (Ah a b) := by unfold Ah; infer_instance
def Cn : List S → Prop
  | [] => True
  | x :: l => Rt x ∧ (∀ y ∈ l, Ah x y) ∧ Cn l
def mg (s x : S) : S := ⟨s.f0, mn s.f1 x.f1, mx s.f2 x.f2⟩
def add : List S → S → List S
  | [], s => [s]
  | x :: l, s => if Ah x s then x :: add l s else if Ah s x then s :: x :: l else add l (mg s x)
def In (x : S) (t p : Int) : Prop := x.f0 = t ∧ x.f1 ≤ p ∧ p < x.f2
instance (x : S) (t p : Int) : Decidable (In x t p) := by unfold In; infer_instance
def Has (l : List S) (t p : Int) : Prop := ∃ x ∈ l, In x t p
theorem Ah_trans {a b c : S} (hb : Rt b) (h : Ah a b) (k : Ah b c) : Ah a c := by
  unfold Ah Rt at *; omega
def size : List S → Int
  | [] => 0
  | x :: l => (x.f2 - x.f1) + size l
def over (x s : S) : Int := if x.f0 = s.f0 ∧ s.f1 < x.f2 ∧ x.f1 < s.f2 then mn x.f2 s.f2 - mx x.f1 s.f1 else 0
def Meets (l : List S) (s : S) : Prop := ∃ x ∈ l, x.f0 = s.f0 ∧ x.f1 < s.f2 ∧ s.f1 < x.f2
def Covers (l : List S) (s : S) : Prop := ∃ x ∈ l, x.f0 = s.f0 ∧ x.f1 ≤ s.f1 ∧ s.f2 ≤ x.f2
end Go.Proofs.Ytjlbgopgeepiaaa.LemSpanConf
set_option linter.unusedVariables false
namespace Go.Proofs.Ytjlbgopgeepiaaa.LemWithinConf
open Go.RowKit Go.Proofs.Ytjlbgopgeepiaaa.PConf Go.Proofs.YtjlbgopgeepiaaaW.PrintWords Go.Proofs.YtjlbgopgeepiaaaW.PrintLast Go.Proofs.YtjlbgopgeepiaaaW.PrintMore Go.Proofs.Ytjlbgopgeepiaaa.Num
theorem within_eq (x n : Int) (hn : 0 < n) (hn2 : n < 4611686018427387904) : busbarlaw0_Within.f x n = some (x % n) := by
  have h0 := Int.emod_nonneg x (show n ≠ 0 by omega)
  have h1 := Int.emod_lt_of_pos x hn
  have ht := Int.tmod_eq_emod (a := x) (b := n)
  have hna : (n.natAbs : Int) = n := by omega
  unfold busbarlaw0_Within.f
  rw [if_neg (by omega)]
  by_cases hc : 0 ≤ x ∨ n ∣ x
  · rw [if_pos hc] at ht
    rw [if_neg (by omega)]
    congr 1
    omega
  · rw [if_neg hc, hna] at ht
    have hne : x % n ≠ 0 := fun h => hc (.inr (Int.dvd_of_emod_eq_zero h))
    rw [if_pos (by omega), wrap64_id (by omega) (by omega)]
    congr 1
    omega
end Go.Proofs.Ytjlbgopgeepiaaa.LemWithinConf
set_option linter.unusedVariables false
set_option linter.unusedSimpArgs false
namespace Go.Proofs.Ytjlbgopgeepiaaa.LemSpanFnConf
open Go.RowKit Go.Proofs.Ytjlbgopgeepiaaa.PConf Go.Proofs.YtjlbgopgeepiaaaW.PrintWords Go.Proofs.YtjlbgopgeepiaaaW.PrintLast Go.Proofs.YtjlbgopgeepiaaaW.PrintMore Go.Proofs.Ytjlbgopgeepiaaa.Num Go.Proofs.Ytjlbgopgeepiaaa.LemSpanConf Go.Proofs.Ytjlbgopgeepiaaa.LemWithinConf
theorem rdS (pre : List S) (x : S) (rest : List S) : rd_T46 (pre ++ x :: rest) (pre.length : Int) = x := by
  unfold rd_T46
  rw [Int.toNat_natCast, List.getD_eq_getElem?_getD, List.getElem?_append_right (Nat.le_refl _), Nat.sub_self]
  rfl
theorem ahead_eq (x s : S) : span_ahead.f x.f0 x.f1 x.f2 s.f0 s.f1 s.f2 = some (decide (Ah x s)) := by
  unfold span_ahead.f
  by_cases h1 : x.f0 < s.f0
  · rw [if_pos h1, decide_eq_true (show Ah x s from .inl h1)]
  · rw [if_neg h1]
    by_cases h2 : x.f0 = s.f0
    · rw [if_pos h2]
      by_cases h3 : x.f2 < s.f1
      · rw [decide_eq_true h3, decide_eq_true (show Ah x s from .inr ⟨h2, h3⟩)]
      · rw [decide_eq_false h3, decide_eq_false (show ¬ Ah x s by unfold Ah; omega)]
    · rw [if_neg h2, decide_eq_false (show ¬ Ah x s by unfold Ah; omega)]
theorem right_eq (s : S) : span_Right.f s.f0 s.f1 s.f2 = some (decide (Rt s)) := by
  unfold span_Right.f
  by_cases h1 : s.f0 ≥ 0
  · rw [if_pos h1]
    by_cases h2 : s.f0 < 4
    · rw [if_pos h2]
      by_cases h3 : s.f1 ≥ 0
      · rw [if_pos h3]
        by_cases h4 : s.f2 ≤ 65536
        · rw [if_pos h4]
          by_cases h5 : s.f1 < s.f2
          · rw [decide_eq_true h5, decide_eq_true (show Rt s by unfold Rt; omega)]
          · rw [decide_eq_false h5, decide_eq_false (show ¬ Rt s by unfold Rt; omega)]
        · rw [if_neg h4, decide_eq_false (show ¬ Rt s by unfold Rt; omega)]
      · rw [if_neg h3, decide_eq_false (show ¬ Rt s by unfold Rt; omega)]
    · rw [if_neg h2, decide_eq_false (show ¬ Rt s by unfold Rt; omega)]
  · rw [if_neg h1, decide_eq_false (show ¬ Rt s by unfold Rt; omega)]
end Go.Proofs.Ytjlbgopgeepiaaa.LemSpanFnConf
set_option linter.unusedVariables false
set_option linter.unusedSimpArgs false
namespace Go.Proofs.Ytjlbgopgeepiaaa.LemCanonConf
open Go.RowKit Go.Proofs.Ytjlbgopgeepiaaa.PConf Go.Proofs.YtjlbgopgeepiaaaW.PrintWords Go.Proofs.YtjlbgopgeepiaaaW.PrintLast Go.Proofs.YtjlbgopgeepiaaaW.PrintMore Go.Proofs.Ytjlbgopgeepiaaa.Num Go.Proofs.Ytjlbgopgeepiaaa.LemSpanConf Go.Proofs.Ytjlbgopgeepiaaa.LemSpanFnConf
def rest (l : List S) : Nat → Nat → Bool
  | 0, _ => true
  | d + 1, i => decide (Rt (rd_T46 l (i : Int))) && (decide (i = 0) || decide (Ah (rd_T46 l ((i : Int) - 1)) (rd_T46 l (i : Int)))) && rest l d (i + 1)
theorem canon_any (l : List S) (hl : l.length ≤ 100000) : ∀ (d i k : Nat), i + d = l.length → d < k → span_Canon.l0 k l l (l.length : Int) (i : Int) = some (rest l d i)
  | 0, i, k, h, hk => by
    obtain ⟨k, rfl⟩ : ∃ m, k = m + 1 := ⟨k - 1, by omega⟩
    rw [span_Canon.l0, if_neg (by omega)]
    rfl
  | d + 1, i, k, h, hk => by
    obtain ⟨k, rfl⟩ : ∃ m, k = m + 1 := ⟨k - 1, by omega⟩
    have ih := canon_any l hl d (i + 1) k (by omega) (by omega)
    have hw : wrap64 ((i : Int) + 1) = ((i + 1 : Nat) : Int) := by rw [wrap64_id (by omega) (by omega)]; rfl
    rw [span_Canon.l0, if_pos (by omega), if_pos (by omega), if_pos (by omega), right_eq, Option.bind_some, hw, ih]
    rw [show rest l (d + 1) i = (decide (Rt (rd_T46 l (i : Int))) && (decide (i = 0) || decide (Ah (rd_T46 l ((i : Int) - 1)) (rd_T46 l (i : Int)))) && rest l d (i + 1)) from rfl]
    by_cases hr : Rt (rd_T46 l (i : Int))
    · rw [decide_eq_true hr, if_pos rfl]
      by_cases h0 : i = 0
      · rw [if_neg (by omega), decide_eq_true h0]
        simp
      · rw [if_pos (by omega), wrap64_id (by omega) (by omega), if_pos (by omega), if_pos (by omega), ahead_eq, Option.bind_some, decide_eq_false h0]
        by_cases ha : Ah (rd_T46 l ((i : Int) - 1)) (rd_T46 l (i : Int))
        · rw [decide_eq_true ha, if_pos rfl]; simp
        · rw [decide_eq_false ha, if_neg (by decide)]; simp
    · rw [decide_eq_false hr, if_neg (by decide)]
      simp
theorem canon_f (l : List S) (hl : l.length ≤ 100000) {k : Nat} (hk : l.length < k) : span_Canon.f k l = some (rest l l.length 0) := canon_any l hl l.length 0 k (by omega) hk
end Go.Proofs.Ytjlbgopgeepiaaa.LemCanonConf
set_option linter.unusedVariables false
set_option linter.unusedSimpArgs false
namespace Go.Proofs.Ytjlbgopgeepiaaa.LemSpanFmConf
open Go.RowKit Go.Proofs.Ytjlbgopgeepiaaa.PConf Go.Proofs.YtjlbgopgeepiaaaW.PrintWords Go.Proofs.YtjlbgopgeepiaaaW.PrintLast Go.Proofs.YtjlbgopgeepiaaaW.PrintMore Go.Proofs.Ytjlbgopgeepiaaa.Num Go.Proofs.Ytjlbgopgeepiaaa.LemSpanConf Go.Proofs.Ytjlbgopgeepiaaa.LemWithinConf Go.Proofs.Ytjlbgopgeepiaaa.LemSpanFnConf
theorem idx (pre rest : List S) (x : S) : ((pre ++ x :: rest).length : Int) = (pre.length : Int) + rest.length + 1 := by rw [List.length_append, List.length_cons]; omega
theorem nxt (pre : List S) (x : S) (h : pre.length ≤ 100000) : wrap64 ((pre.length : Int) + 1) = ((pre ++ [x]).length : Int) := by
  rw [wrap64_id (by omega) (by omega), List.length_append]; rfl
end Go.Proofs.Ytjlbgopgeepiaaa.LemSpanFmConf
set_option linter.unusedVariables false
set_option linter.unusedSimpArgs false
namespace Go.Proofs.Ytjlbgopgeepiaaa.LemSpanFoConf
open Go.RowKit Go.Proofs.Ytjlbgopgeepiaaa.PConf Go.Proofs.YtjlbgopgeepiaaaW.PrintWords Go.Proofs.YtjlbgopgeepiaaaW.PrintLast Go.Proofs.YtjlbgopgeepiaaaW.PrintMore Go.Proofs.Ytjlbgopgeepiaaa.Num Go.Proofs.Ytjlbgopgeepiaaa.LemSpanConf Go.Proofs.Ytjlbgopgeepiaaa.LemWithinConf Go.Proofs.Ytjlbgopgeepiaaa.LemSpanFnConf Go.Proofs.Ytjlbgopgeepiaaa.LemSpanFmConf
instance (l : List S) (t p : Int) : Decidable (Has l t p) := by unfold Has; infer_instance
instance (l : List S) (s : S) : Decidable (Meets l s) := by unfold Meets; infer_instance
instance (l : List S) (s : S) : Decidable (Covers l s) := by unfold Covers; infer_instance
theorem pos (pre rest : List S) (x : S) : (pre.length : Int) < ((pre ++ x :: rest).length : Int) := by rw [idx]; omega
theorem both_same (x s : S) (h : x.f0 = s.f0) : span_both.f x.f0 x.f1 x.f2 s.f0 s.f1 s.f2 = some (x.f0, mx x.f1 s.f1, mn x.f2 s.f2) := by unfold span_both.f; rw [if_pos h]
theorem both_other (x s : S) (h : x.f0 ≠ s.f0) : span_both.f x.f0 x.f1 x.f2 s.f0 s.f1 s.f2 = some (0, 0, 0) := by unfold span_both.f; rw [if_neg h]
theorem right3 (a b c : Int) : span_Right.f a b c = some (decide (Rt ⟨a, b, c⟩)) := right_eq ⟨a, b, c⟩
theorem covers_loop (s : S) (hs : Rt s) : ∀ (rest pre : List S) (k : Nat), pre.length + rest.length ≤ 100000 → rest.length < k → span_Covers.l0 k (pre ++ rest) ((pre ++ rest).length : Int) (pre.length : Int) s.f0 s.f1 s.f2 = some (decide (Covers rest s))
  | [], pre, k, hp, hk => by
    obtain ⟨k, rfl⟩ : ∃ m, k = m + 1 := ⟨k - 1, by omega⟩
    rw [List.append_nil, span_Covers.l0, if_neg (by omega), decide_eq_false (by simp [Covers])]
  | x :: rest, pre, k, hp, hk => by
    rw [List.length_cons] at hp hk
    obtain ⟨k, rfl⟩ : ∃ m, k = m + 1 := ⟨k - 1, by omega⟩
    have ih := covers_loop s hs rest (pre ++ [x]) k (by simp; omega) (by omega)
    rw [List.append_assoc pre] at ih
    have hc : Covers (x :: rest) s ↔ (x.f0 = s.f0 ∧ x.f1 ≤ s.f1 ∧ s.f2 ≤ x.f2) ∨ Covers rest s := by simp [Covers]
    have hn : ¬ (x.f0 = s.f0 ∧ x.f1 ≤ s.f1 ∧ s.f2 ≤ x.f2) → span_Covers.l0 k (pre ++ x :: rest) ((pre ++ x :: rest).length : Int) (wrap64 ((pre.length : Int) + 1)) s.f0 s.f1 s.f2 = some (decide (Covers (x :: rest) s)) := by
      intro h
      rw [nxt pre x (by omega)]
      refine Eq.trans ih ?_
      congr 1
      rw [decide_eq_decide, hc]
      exact ⟨.inr, fun k => k.resolve_left h⟩
    rw [span_Covers.l0, if_pos (pos pre rest x), if_pos (by omega), if_pos (pos pre rest x), rdS]
    unfold Rt at hs
    by_cases h1 : x.f0 = s.f0
    · rw [both_same x s h1, Option.bind_some]
      by_cases h2 : x.f1 ≤ s.f1 ∧ s.f2 ≤ x.f2
      · have e : (x.f0 == s.f0 && (mx x.f1 s.f1 == s.f1 && mn x.f2 s.f2 == s.f2)) = true := by
          simp only [Bool.and_eq_true, beq_iff_eq]
          unfold mx mn
          refine ⟨h1, ?_, ?_⟩
          · split <;> omega
          · split <;> omega
        rw [if_pos e, decide_eq_true (hc.2 (.inl ⟨h1, h2⟩))]
      · have e : ¬ (x.f0 == s.f0 && (mx x.f1 s.f1 == s.f1 && mn x.f2 s.f2 == s.f2)) = true := by
          simp only [Bool.and_eq_true, beq_iff_eq]
          unfold mx mn
          rintro ⟨_, a, b⟩
          refine h2 ⟨?_, ?_⟩
          · split at a <;> omega
          · split at b <;> omega
        rw [if_neg e, hn (fun h => h2 h.2)]
    · rw [both_other x s h1, Option.bind_some]
      have e : ¬ (((0 : Int) == s.f0) && (((0 : Int) == s.f1) && ((0 : Int) == s.f2))) = true := by
        simp only [Bool.and_eq_true, beq_iff_eq]; omega
      rw [if_neg e, hn (fun h => h1 h.1)]
theorem covers_eq (l : List S) (s : S) (hs : Rt s) (hl : l.length ≤ 100000) {k : Nat} (hk : l.length < k) : span_Covers.f k l s.f0 s.f1 s.f2 = some (decide (Covers l s)) := covers_loop s hs l [] k (by simpa using hl) hk
theorem both_right (x s : S) (hx : Rt x) (hs : Rt s) (h : x.f0 = s.f0) : Rt ⟨x.f0, mx x.f1 s.f1, mn x.f2 s.f2⟩ ↔ x.f1 < s.f2 ∧ s.f1 < x.f2 := by
  unfold Rt mx mn at *
  dsimp only
  (repeat' split) <;> omega
theorem meets_loop (s : S) (hs : Rt s) : ∀ (rest pre : List S) (k : Nat), Cn rest → pre.length + rest.length ≤ 100000 → rest.length < k → span_Meets.l0 k (pre ++ rest) ((pre ++ rest).length : Int) (pre.length : Int) s.f0 s.f1 s.f2 = some (decide (Meets rest s))
  | [], pre, k, _, hp, hk => by
    obtain ⟨k, rfl⟩ : ∃ m, k = m + 1 := ⟨k - 1, by omega⟩
    rw [List.append_nil, span_Meets.l0, if_neg (by omega), decide_eq_false (by simp [Meets])]
  | x :: rest, pre, k, hcn, hp, hk => by
    rw [List.length_cons] at hp hk
    obtain ⟨k, rfl⟩ : ∃ m, k = m + 1 := ⟨k - 1, by omega⟩
    have ih := meets_loop s hs rest (pre ++ [x]) k hcn.2.2 (by simp; omega) (by omega)
    rw [List.append_assoc pre] at ih
    have hc : Meets (x :: rest) s ↔ (x.f0 = s.f0 ∧ x.f1 < s.f2 ∧ s.f1 < x.f2) ∨ Meets rest s := by simp [Meets]
    have hn : ¬ (x.f0 = s.f0 ∧ x.f1 < s.f2 ∧ s.f1 < x.f2) → span_Meets.l0 k (pre ++ x :: rest) ((pre ++ x :: rest).length : Int) (wrap64 ((pre.length : Int) + 1)) s.f0 s.f1 s.f2 = some (decide (Meets (x :: rest) s)) := by
      intro h
      rw [nxt pre x (by omega)]
      refine Eq.trans ih ?_
      congr 1
      rw [decide_eq_decide, hc]
      exact ⟨.inr, fun k => k.resolve_left h⟩
    rw [span_Meets.l0, if_pos (pos pre rest x), if_pos (by omega), if_pos (pos pre rest x), rdS]
    by_cases h1 : x.f0 = s.f0
    · rw [both_same x s h1, Option.bind_some, right3, Option.bind_some]
      by_cases h2 : x.f1 < s.f2 ∧ s.f1 < x.f2
      · rw [decide_eq_true ((both_right x s hcn.1 hs h1).2 h2), if_pos rfl, decide_eq_true (hc.2 (.inl ⟨h1, h2⟩))]
      · rw [decide_eq_false (fun h => h2 ((both_right x s hcn.1 hs h1).1 h)), if_neg (by decide), hn (fun h => h2 h.2)]
    · rw [both_other x s h1, Option.bind_some, right3, Option.bind_some, decide_eq_false (show ¬ Rt ⟨0, 0, 0⟩ by unfold Rt; simp), if_neg (by decide), hn (fun h => h1 h.1)]
theorem meets_eq (l : List S) (s : S) (hc : Cn l) (hs : Rt s) (hl : l.length ≤ 100000) {k : Nat} (hk : l.length < k) : span_Meets.f k l s.f0 s.f1 s.f2 = some (decide (Meets l s)) := meets_loop s hs l [] k hc (by simpa using hl) hk
end Go.Proofs.Ytjlbgopgeepiaaa.LemSpanFoConf
set_option linter.unusedVariables false
set_option linter.unusedSimpArgs false
namespace Go.Proofs.Ytjlbgopgeepiaaa.LemCheckConf
open Go.RowKit Go.Proofs.Ytjlbgopgeepiaaa.PConf Go.Proofs.YtjlbgopgeepiaaaW.PrintWords Go.Proofs.YtjlbgopgeepiaaaW.PrintLast Go.Proofs.YtjlbgopgeepiaaaW.PrintMore Go.Proofs.Ytjlbgopgeepiaaa.Num Go.Proofs.Ytjlbgopgeepiaaa.LemSpanConf Go.Proofs.Ytjlbgopgeepiaaa.LemSpanFnConf Go.Proofs.Ytjlbgopgeepiaaa.LemSpanFmConf Go.Proofs.Ytjlbgopgeepiaaa.LemSpanFoConf Go.Proofs.Ytjlbgopgeepiaaa.LemSpanFqConf Go.Proofs.Ytjlbgopgeepiaaa.LemCanonConf
theorem rest_all (l : List S) : ∀ (d i : Nat), rest l d i = true → ∀ j, i ≤ j → j < i + d → Rt (rd_T46 l (j : Int)) ∧ (j = 0 ∨ Ah (rd_T46 l ((j : Int) - 1)) (rd_T46 l (j : Int)))
  | 0, i, _, j, h1, h2 => absurd h2 (by omega)
  | d + 1, i, h, j, h1, h2 => by
    unfold rest at h
    simp only [Bool.and_eq_true, Bool.or_eq_true, decide_eq_true_eq] at h
    rcases Nat.lt_or_ge i j with h3 | h3
    · exact rest_all l d (i + 1) h.2 j (by omega) (by omega)
    · obtain rfl : j = i := by omega
      exact h.1
theorem rd_get (l : List S) (i : Nat) (h : i < l.length) : rd_T46 l (i : Int) = l[i] := by
  unfold rd_T46
  rw [Int.toNat_natCast, List.getD_eq_getElem?_getD, List.getElem?_eq_getElem h]
  rfl
theorem can_of : ∀ (l : List S), (∀ i (h : i < l.length), Rt l[i]) → (∀ i (h : i + 1 < l.length), Ah l[i] l[i + 1]) → Cn l
  | [], _, _ => trivial
  | x :: l, h1, h2 => by
    have hc := can_of l (fun i h => h1 (i + 1) (by simpa using h)) (fun i h => h2 (i + 1) (by simpa using h))
    refine ⟨h1 0 (by simp), fun y hy => ?_, hc⟩
    match l, hc, hy, h1, h2 with
    | z :: l', hc, hy, h1, h2 =>
      have hz : Ah x z := h2 0 (by simp)
      rcases List.mem_cons.1 hy with rfl | hy
      · exact hz
      · exact Ah_trans hc.1 hz (hc.2.1 y hy)
theorem rest_can (l : List S) (h : rest l l.length 0 = true) : Cn l := by
  refine can_of l (fun i hi => ?_) (fun i hi => ?_)
  · have := (rest_all l _ _ h i (by omega) (by omega)).1
    rwa [rd_get l i hi] at this
  · have := (rest_all l _ _ h (i + 1) (by omega) (by omega)).2
    rcases this with h0 | h0
    · omega
    · rw [rd_get l (i + 1) hi, show (((i + 1 : Nat) : Int) - 1) = (i : Int) by omega, rd_get l i (by omega)] at h0
      exact h0
def ctlw (w : Int) : S := ⟨2, w, w + 8⟩
def chk (m : List S) (w : Int) : Int := if w < 0 ∨ 65528 < w then 1 else if rest m m.length 0 = true then (if Meets m (ctlw w) then 6 else 0) else 2
theorem ctlw_rt (w : Int) (h0 : 0 ≤ w) (h1 : w ≤ 65528) : Rt (ctlw w) := by unfold Rt ctlw; dsimp only; omega
theorem check_any (m : List S) (w : Int) (hl : m.length ≤ 100000) {k : Nat} (hk : m.length + 2 < k) : plan_Check.f k m w = some (chk m w) := by
  obtain ⟨k, rfl⟩ : ∃ j, k = j + 1 := ⟨k - 1, by omega⟩
  have hj : plan_Check.j0 (k + 1) m w true = some 1 := by rw [plan_Check.j0, if_pos rfl]
  unfold plan_Check.f chk
  by_cases h0 : w < 0
  · rw [if_pos h0, hj, if_pos (.inl h0)]
  · rw [if_neg h0]
    by_cases h1 : w > 65528
    · rw [decide_eq_true h1, hj, if_pos (.inr h1)]
    · rw [decide_eq_false h1, plan_Check.j0, if_neg (by decide), if_neg (by omega), canon_f m hl (by omega), Option.bind_some]
      by_cases hc : rest m m.length 0 = true
      · rw [if_pos hc, if_pos hc]
        unfold plan_control.f
        rw [Option.bind_some, wrap64_id (by omega) (by omega)]
        have e := meets_eq m (ctlw w) (rest_can m hc) (ctlw_rt w (by omega) (by omega)) hl (k := k) (by omega)
        refine (congrArg (fun z => Option.bind z _) e).trans ?_
        rw [Option.bind_some]
        by_cases h : Meets m (ctlw w)
        · rw [decide_eq_true h, if_pos rfl, if_pos h]
        · rw [decide_eq_false h, if_neg (by decide), if_neg h]
      · rw [if_neg hc, if_neg hc]
end Go.Proofs.Ytjlbgopgeepiaaa.LemCheckConf
namespace Go.Proofs.Ytjlbgopgeepiaaa.PConf
open Go.RowKit Go.Proofs.YtjlbgopgeepiaaaW.PrintWords Go.Proofs.YtjlbgopgeepiaaaW.PrintLast Go.Proofs.YtjlbgopgeepiaaaW.PrintMore
attribute [local go_sem] max2_int min2_int max_two min_two max_three min_three max_four min_four plus_setCell_drewN plus_cell_same   -- for this text's walks alone
set_option linter.unusedVariables false
set_option linter.unusedSimpArgs false
mutual
def busbarlaw14_All.l0 : Nat → List Int → List (S48) → Int → Option ((List (S48)) × (List (S46)))
 | 0, _, _, _ => none
 | k + 1, x0, x4, x5 => if x5 < 4 then (busbarlaw14_All.l1 k x0 x4 x5 0 0) else (some (x4, (([(⟨2, 0, 65536⟩ : S46), (⟨3, 0, 65536⟩ : S46)] : List (S46)))))
def busbarlaw14_All.l1 : Nat → List Int → List (S48) → Int → Int → Int → Option ((List (S48)) × (List (S46)))
 | 0, _, _, _, _, _ => none
 | k + 1, x0, x4, x5, x6, x7 => if x7 < (x0.length : Int) then (busbarlaw14_All.j2 k x0 x4 x5 x6 x7 (decide (x7 < 12))) else (busbarlaw14_All.j2 k x0 x4 x5 x6 x7 false)
def busbarlaw14_All.j2 : Nat → List Int → List (S48) → Int → Int → Int → Bool → Option ((List (S48)) × (List (S46)))
 | 0, _, _, _, _, _, _ => none
 | k + 1, x0, x4, x5, x6, x7, x20 => if x20 = true then (if 0 ≤ x7 then (if x7 < (x0.length : Int) then ((busbarlaw0_Within.f (rd x0 x7) 2).bind fun t260 => (if t260 = (wrap64 (x5 - 2)) then ((busbarlaw0_Digit.f (rd x0 x7) 2 2).bind fun t262 => (if (wrap64 (2 + (wrap64 (2 * t262)))) = 0 then (none) else ((busbarlaw0_Digit.f (rd x0 x7) 4 3).bind fun t264 => (if x4.length < 5864062014805 then (busbarlaw14_All.l1 k x0 (x4 ++ [(⟨x5, wrap64 ((wrap64 ((wrap64 (Int.tdiv (wrap64 ((wrap64 (x6 + (wrap64 (2 + (wrap64 (2 * t262)))))) - 1)) (wrap64 (2 + (wrap64 (2 * t262)))))) * (wrap64 (2 + (wrap64 (2 * t262)))))) + (wrap64 ((wrap64 (2 + (wrap64 (2 * t262)))) * t264))), wrap64 (2 + (wrap64 (2 * t262)))⟩ : S48)]) x5 (wrap64 ((wrap64 ((wrap64 ((wrap64 (Int.tdiv (wrap64 ((wrap64 (x6 + (wrap64 (2 + (wrap64 (2 * t262)))))) - 1)) (wrap64 (2 + (wrap64 (2 * t262)))))) * (wrap64 (2 + (wrap64 (2 * t262)))))) + (wrap64 ((wrap64 (2 + (wrap64 (2 * t262)))) * t264)))) + (wrap64 (2 + (wrap64 (2 * t262)))))) (wrap64 (x7 + 1))) else (none))))) else (busbarlaw14_All.l1 k x0 x4 x5 x6 (wrap64 (x7 + 1))))) else (none)) else (none)) else (busbarlaw14_All.l0 k x0 x4 (wrap64 (x5 + 1)))
end
def busbarlaw14_All.f (k : Nat) (l0 : List Int) : Option ((List (S48)) × (List (S46))) := busbarlaw14_All.l0 k l0 ([] : List (S48)) 2
theorem busbarlaw14_All.mono_l : ∀ k, (∀ y0 y1 y2, LeO (busbarlaw14_All.l0 k y0 y1 y2) (busbarlaw14_All.l0 (k + 1) y0 y1 y2)) ∧ (∀ y0 y1 y2 y3 y4, LeO (busbarlaw14_All.l1 k y0 y1 y2 y3 y4) (busbarlaw14_All.l1 (k + 1) y0 y1 y2 y3 y4)) ∧ (∀ y0 y1 y2 y3 y4 y5, LeO (busbarlaw14_All.j2 k y0 y1 y2 y3 y4 y5) (busbarlaw14_All.j2 (k + 1) y0 y1 y2 y3 y4 y5))
 | 0 => ⟨fun _ _ _ r h => by simp [busbarlaw14_All.l0] at h, fun _ _ _ _ _ r h => by simp [busbarlaw14_All.l1] at h, fun _ _ _ _ _ _ r h => by simp [busbarlaw14_All.j2] at h⟩
 | k + 1 => by
  obtain ⟨ih0, ih1, ih2⟩ := busbarlaw14_All.mono_l k
  refine ⟨?_, ?_, ?_⟩
  ·
   intro y0 y1 y2
   unfold busbarlaw14_All.l0
   repeat' first
   | (with_reducible exact ih0 _ _ _)
   | (with_reducible exact ih1 _ _ _ _ _)
   | (with_reducible exact ih2 _ _ _ _ _ _)
   | (with_reducible exact LeO.refl _)
   | (with_reducible exact LeO.none _)
   | (with_reducible refine LeO.ite ?_ ?_)
   | (with_reducible refine LeO.bind ?_ (fun _ => ?_))
   | exact ih0 _ _ _
   | exact ih1 _ _ _ _ _
   | exact ih2 _ _ _ _ _ _
   | exact LeO.none _
   | refine LeO.ite ?_ ?_
   | refine LeO.bind ?_ (fun _ => ?_)
  ·
   intro y0 y1 y2 y3 y4
   unfold busbarlaw14_All.l1
   repeat' first
   | (with_reducible exact ih0 _ _ _)
   | (with_reducible exact ih1 _ _ _ _ _)
   | (with_reducible exact ih2 _ _ _ _ _ _)
   | (with_reducible exact LeO.refl _)
   | (with_reducible exact LeO.none _)
   | (with_reducible refine LeO.ite ?_ ?_)
   | (with_reducible refine LeO.bind ?_ (fun _ => ?_))
   | exact ih0 _ _ _
   | exact ih1 _ _ _ _ _
   | exact ih2 _ _ _ _ _ _
   | exact LeO.none _
   | refine LeO.ite ?_ ?_
   | refine LeO.bind ?_ (fun _ => ?_)
  ·
   intro y0 y1 y2 y3 y4 y5
   unfold busbarlaw14_All.j2
   repeat' first
   | (with_reducible exact ih0 _ _ _)
   | (with_reducible exact ih1 _ _ _ _ _)
   | (with_reducible exact ih2 _ _ _ _ _ _)
   | (with_reducible exact LeO.refl _)
   | (with_reducible exact LeO.none _)
   | (with_reducible refine LeO.ite ?_ ?_)
   | (with_reducible refine LeO.bind ?_ (fun _ => ?_))
   | exact ih0 _ _ _
   | exact ih1 _ _ _ _ _
   | exact ih2 _ _ _ _ _ _
   | exact LeO.none _
   | refine LeO.ite ?_ ?_
   | refine LeO.bind ?_ (fun _ => ?_)
theorem busbarlaw14_All.mono : ∀ a0 k, LeO (busbarlaw14_All.f k a0) (busbarlaw14_All.f (k + 1) a0) := by
 intro a0 k
 obtain ⟨ih0, ih1, ih2⟩ := busbarlaw14_All.mono_l k
 unfold busbarlaw14_All.f
 repeat' first
   | (with_reducible exact ih0 _ _ _)
   | (with_reducible exact ih1 _ _ _ _ _)
   | (with_reducible exact ih2 _ _ _ _ _ _)
   | (with_reducible exact LeO.refl _)
   | (with_reducible exact LeO.none _)
   | (with_reducible refine LeO.ite ?_ ?_)
   | (with_reducible refine LeO.bind ?_ (fun _ => ?_))
   | exact ih0 _ _ _
   | exact ih1 _ _ _ _ _
   | exact ih2 _ _ _ _ _ _
   | exact LeO.none _
   | refine LeO.ite ?_ ?_
   | refine LeO.bind ?_ (fun _ => ?_)
set_option maxHeartbeats 8000000 in
set_option maxRecDepth 100000 in
theorem busbarlaw14_All.calls (k : Nat) (A0 : Option Addr) (c0 : Nat) (l0 : List Int) (r1 : List (S48)) (r2 : List (S46)) (w : World) (hr0 : Kd.C (Kd.int .i64) w A0 l0.length l0) (hc0 : l0.length ≤ c0) (h : busbarlaw14_All.f k l0 = some (r1, r2)) :
  Calls Try.prog 15 #[.slice A0 l0.length c0] w fun e w' => ∃ v0_ v1_ : Value, e = .returned (.tuple #[v0_, v1_]) ∧ Kd.R k48 48 w' w.heap.size (fun _ => True) v0_ r1 ∧ Kd.R k46 46 w' w.heap.size (fun _ => True) v1_ r2 ∧ Below w.heap.size w w' := by
 have hu48 := Try.underlying48
 have hu46 := Try.underlying46
 have HR0 := Aside0.mk hr0
 have HC0 := Aside0.mk hc0
 clear hr0 hc0
 have HB := Aside0.mk (Below.refl w.heap.size w)
 have H : (busbarlaw14_All.l0 k l0 ([] : List (S48)) 2) = some (r1, r2) := h
 clear h
 have H' := Aside0.mk H
 clear H
 go_enter Try.func15, Try.ntmps15
 go_wp2
 go_loopg [4, 5] k (fun kq v4 v5 w' => ∃ (x4_1 : List (S48)) (x5_1 : Int), v5 = .int .i64 x5_1 ∧ Aside0 (busbarlaw14_All.l0 kq l0 x4_1 x5_1 = some (r1, r2)) ∧ Aside0 (kq ≤ k) ∧ Aside0 (Kd.R k48 48 w' w.heap.size (fun _ => True) v4 x4_1) ∧ Aside0 (Below w.heap.size w w'))
 case atStart => exact ⟨(([] : List (S48))), (2), (by first | rfl | (simp; done) | (simp [*]; done)), H', ⟨Nat.le_refl _⟩, ⟨by first | exact Kd.R_nil _ _ _ _ _ | exact Kd.N_nil _ _ _ _ _ | exact Kd.V_nil _ _ _ _ _ | exact Kd.Q_nil _ _ _ _ _ | exact Kd.S_nil _ _ _ _ _⟩, ⟨by repeat (first | (with_reducible first | exact HB.out | apply below_alloc | apply pw_below_drewN | apply below_drew1) | exact HB.out)⟩⟩
 case round =>
  clear H'
  try clear c1
  obtain ⟨x4_1, x5_1, rfl, HA, HK1, HO_4, HB⟩ := hrel
  cases gk with
  | zero => exact absurd HA.out (by simp [busbarlaw14_All.l0])
  | succ k1 =>
   have H := HA.out
   clear HA
   simp only [busbarlaw14_All.l0] at H
   by_cases c2 : x5_1 < 4
   ·
    rw [if_pos c2] at H
    have c2b0 : decide (x5_1 < 4) = true := decide_eq_true c2
    clear c2
    have H' := Aside0.mk H
    clear H
    go_wp2
    go_loopg [4, 6, 7] k1 (fun kq v4 v6 v7 w' => ∃ (x4_2 : List (S48)) (x6_2 : Int) (x7_2 : Int), v6 = .int .i64 x6_2 ∧ v7 = .int .i64 x7_2 ∧ Aside0 (busbarlaw14_All.l1 kq l0 x4_2 x5_1 x6_2 x7_2 = some (r1, r2)) ∧ Aside0 (kq ≤ k1) ∧ Aside0 (Kd.R k48 48 w' w.heap.size (fun _ => True) v4 x4_2) ∧ Aside0 (Below w.heap.size w w'))
    case atStart => exact ⟨(x4_1), (0), (0), (by first | rfl | (simp; done) | (simp [*]; done)), (by first | rfl | (simp; done) | (simp [*]; done)), H', ⟨Nat.le_refl _⟩, ⟨by (with_reducible repeat (first | apply Kd.R_alloc | apply Kd.R_drewN | apply Kd.R_drew)); exact HO_4.out⟩, ⟨by repeat (first | (with_reducible first | exact HB.out | apply below_alloc | apply pw_below_drewN | apply below_drew1) | exact HB.out)⟩⟩
    case round =>
     clear H'
     try clear c1
     try clear c2
     try clear c2b0
     try clear p2
     obtain ⟨x4_2, x6_2, x7_2, rfl, rfl, HA, HK2, HO_4, HB⟩ := hrel
     cases gk with
     | zero => exact absurd HA.out (by simp [busbarlaw14_All.l1])
     | succ k2 =>
      have H := HA.out
      clear HA
      simp only [busbarlaw14_All.l1] at H
      have HC3 := Aside0.mk H
      clear H
      go_upto_region 7 with (fail)
      go_cut [20] (fun v20 wc => ∃ (kq : Nat) (x20_2 : Bool), v20 = .bool x20_2 ∧ Aside0 (busbarlaw14_All.j2 kq l0 x4_2 x5_1 x6_2 x7_2 x20_2 = some (r1, r2)) ∧ Aside0 (kq ≤ k2) ∧ Aside0 (Kd.R k48 48 wc w.heap.size (fun _ => True) u4 x4_2) ∧ Aside0 (Below w.heap.size w wc))
      case first =>
       have H := HC3.out
       clear HC3
       by_cases c4 : x7_2 < (l0.length : Int)
       ·
        rw [if_pos c4] at H
        have c4b0 : decide (x7_2 < (l0.length : Int)) = true := decide_eq_true c4
        clear c4
        (first | rw [c4b0] | (simp only [i64_w, i32_w]; rw [c4b0]) | skip)
        have H' := Aside0.mk H
        clear H
        go_wp2
        go_meet
        case rel => exact ⟨_, (decide (x7_2 < 12)), (by first | rfl | (simp; done) | (simp [*]; done)), H', ⟨by have := HK1.out; have := HK2.out; first | omega | exact Nat.le_refl _⟩, ⟨by (with_reducible repeat (first | apply Kd.R_alloc | apply Kd.R_drewN | apply Kd.R_drew)); exact HO_4.out⟩, ⟨by repeat (first | (with_reducible first | exact HB.out | apply below_alloc | apply pw_below_drewN | apply below_drew1) | exact HB.out)⟩⟩
       ·
        rw [if_neg c4] at H
        have c4b0 : decide (x7_2 < (l0.length : Int)) = false := decide_eq_false c4
        clear c4
        (first | rw [c4b0] | (simp only [i64_w, i32_w]; rw [c4b0]) | skip)
        have H' := Aside0.mk H
        clear H
        go_wp2
        go_meet
        case rel => exact ⟨_, (false), (by first | rfl | (simp; done) | (simp [*]; done)), H', ⟨by have := HK1.out; have := HK2.out; first | omega | exact Nat.le_refl _⟩, ⟨by (with_reducible repeat (first | apply Kd.R_alloc | apply Kd.R_drewN | apply Kd.R_drew)); exact HO_4.out⟩, ⟨by repeat (first | (with_reducible first | exact HB.out | apply below_alloc | apply pw_below_drewN | apply below_drew1) | exact HB.out)⟩⟩
      case rest =>
       clear HC3
       try clear c1
       try clear c2
       try clear c2b0
       try clear p2
       try clear c4
       try clear c4b0
       try clear p2
       obtain ⟨kq, x20_2, rfl, HA, HJ2, HO_4, HB⟩ := hcut
       cases kq with
       | zero => exact absurd HA.out (by simp [busbarlaw14_All.j2])
       | succ kj2 =>
        have H := HA.out
        clear HA
        simp only [busbarlaw14_All.j2] at H
        by_cases c5 : x20_2 = true
        ·
         subst c5
         have H1 : (if 0 ≤ x7_2 then (if x7_2 < (l0.length : Int) then ((busbarlaw0_Within.f (rd l0 x7_2) 2).bind fun t260 => (if t260 = (wrap64 (x5_1 - 2)) then ((busbarlaw0_Digit.f (rd l0 x7_2) 2 2).bind fun t262 => (if (wrap64 (2 + (wrap64 (2 * t262)))) = 0 then (none) else ((busbarlaw0_Digit.f (rd l0 x7_2) 4 3).bind fun t264 => (if x4_2.length < 5864062014805 then (busbarlaw14_All.l1 kj2 l0 (x4_2 ++ [(⟨x5_1, wrap64 ((wrap64 ((wrap64 (Int.tdiv (wrap64 ((wrap64 (x6_2 + (wrap64 (2 + (wrap64 (2 * t262)))))) - 1)) (wrap64 (2 + (wrap64 (2 * t262)))))) * (wrap64 (2 + (wrap64 (2 * t262)))))) + (wrap64 ((wrap64 (2 + (wrap64 (2 * t262)))) * t264))), wrap64 (2 + (wrap64 (2 * t262)))⟩ : S48)]) x5_1 (wrap64 ((wrap64 ((wrap64 ((wrap64 (Int.tdiv (wrap64 ((wrap64 (x6_2 + (wrap64 (2 + (wrap64 (2 * t262)))))) - 1)) (wrap64 (2 + (wrap64 (2 * t262)))))) * (wrap64 (2 + (wrap64 (2 * t262)))))) + (wrap64 ((wrap64 (2 + (wrap64 (2 * t262)))) * t264)))) + (wrap64 (2 + (wrap64 (2 * t262)))))) (wrap64 (x7_2 + 1))) else (none))))) else (busbarlaw14_All.l1 kj2 l0 x4_2 x5_1 x6_2 (wrap64 (x7_2 + 1))))) else (none)) else (none)) = some (r1, r2) := by rw [if_pos rfl] at H; exact H
         clear H
         have H := H1
         clear H1
         by_cases c6 : 0 ≤ x7_2
         ·
          rw [if_pos c6] at H
          have c6b0 : decide (0 ≤ x7_2) = true := decide_eq_true c6
          clear c6
          by_cases c7 : x7_2 < (l0.length : Int)
          ·
           rw [if_pos c7] at H
           have c7b0 : decide (x7_2 < (l0.length : Int)) = true := decide_eq_true c7
           clear c7
           replace H := Option.bind_eq_some_iff.mp H
           obtain ⟨t260, A80, H⟩ := H
           replace H : (if t260 = (wrap64 (x5_1 - 2)) then ((busbarlaw0_Digit.f (rd l0 x7_2) 2 2).bind fun t262 => (if (wrap64 (2 + (wrap64 (2 * t262)))) = 0 then (none) else ((busbarlaw0_Digit.f (rd l0 x7_2) 4 3).bind fun t264 => (if x4_2.length < 5864062014805 then (busbarlaw14_All.l1 kj2 l0 (x4_2 ++ [(⟨x5_1, wrap64 ((wrap64 ((wrap64 (Int.tdiv (wrap64 ((wrap64 (x6_2 + (wrap64 (2 + (wrap64 (2 * t262)))))) - 1)) (wrap64 (2 + (wrap64 (2 * t262)))))) * (wrap64 (2 + (wrap64 (2 * t262)))))) + (wrap64 ((wrap64 (2 + (wrap64 (2 * t262)))) * t264))), wrap64 (2 + (wrap64 (2 * t262)))⟩ : S48)]) x5_1 (wrap64 ((wrap64 ((wrap64 ((wrap64 (Int.tdiv (wrap64 ((wrap64 (x6_2 + (wrap64 (2 + (wrap64 (2 * t262)))))) - 1)) (wrap64 (2 + (wrap64 (2 * t262)))))) * (wrap64 (2 + (wrap64 (2 * t262)))))) + (wrap64 ((wrap64 (2 + (wrap64 (2 * t262)))) * t264)))) + (wrap64 (2 + (wrap64 (2 * t262)))))) (wrap64 (x7_2 + 1))) else (none))))) else (busbarlaw14_All.l1 kj2 l0 x4_2 x5_1 x6_2 (wrap64 (x7_2 + 1)))) = some (r1, r2) := H
           have A8 := Aside0.mk A80
           clear A80
           by_cases c9 : t260 = (wrap64 (x5_1 - 2))
           ·
            rw [if_pos c9] at H
            have c9b0 : (t260 == (wrap64 (x5_1 - 2))) = true := beq_iff_eq.mpr c9
            have c9b1 : (t260 != (wrap64 (x5_1 - 2))) = false := bne_eq_false_iff_eq.mpr c9
            clear c9
            replace H := Option.bind_eq_some_iff.mp H
            obtain ⟨t262, A100, H⟩ := H
            replace H : (if (wrap64 (2 + (wrap64 (2 * t262)))) = 0 then (none) else ((busbarlaw0_Digit.f (rd l0 x7_2) 4 3).bind fun t264 => (if x4_2.length < 5864062014805 then (busbarlaw14_All.l1 kj2 l0 (x4_2 ++ [(⟨x5_1, wrap64 ((wrap64 ((wrap64 (Int.tdiv (wrap64 ((wrap64 (x6_2 + (wrap64 (2 + (wrap64 (2 * t262)))))) - 1)) (wrap64 (2 + (wrap64 (2 * t262)))))) * (wrap64 (2 + (wrap64 (2 * t262)))))) + (wrap64 ((wrap64 (2 + (wrap64 (2 * t262)))) * t264))), wrap64 (2 + (wrap64 (2 * t262)))⟩ : S48)]) x5_1 (wrap64 ((wrap64 ((wrap64 ((wrap64 (Int.tdiv (wrap64 ((wrap64 (x6_2 + (wrap64 (2 + (wrap64 (2 * t262)))))) - 1)) (wrap64 (2 + (wrap64 (2 * t262)))))) * (wrap64 (2 + (wrap64 (2 * t262)))))) + (wrap64 ((wrap64 (2 + (wrap64 (2 * t262)))) * t264)))) + (wrap64 (2 + (wrap64 (2 * t262)))))) (wrap64 (x7_2 + 1))) else (none)))) = some (r1, r2) := H
            have A10 := Aside0.mk A100
            clear A100
            by_cases c11 : (wrap64 (2 + (wrap64 (2 * t262)))) = 0
            ·
             rw [if_pos c11] at H
             exact absurd H (by simp)
            ·
             rw [if_neg c11] at H
             have c11b0 : ((wrap64 (2 + (wrap64 (2 * t262)))) == 0) = false := beq_eq_false_iff_ne.mpr c11
             have c11b1 : ((wrap64 (2 + (wrap64 (2 * t262)))) != 0) = true := bne_iff_ne.mpr c11
             replace H := Option.bind_eq_some_iff.mp H
             obtain ⟨t264, A120, H⟩ := H
             replace H : (if x4_2.length < 5864062014805 then (busbarlaw14_All.l1 kj2 l0 (x4_2 ++ [(⟨x5_1, wrap64 ((wrap64 ((wrap64 (Int.tdiv (wrap64 ((wrap64 (x6_2 + (wrap64 (2 + (wrap64 (2 * t262)))))) - 1)) (wrap64 (2 + (wrap64 (2 * t262)))))) * (wrap64 (2 + (wrap64 (2 * t262)))))) + (wrap64 ((wrap64 (2 + (wrap64 (2 * t262)))) * t264))), wrap64 (2 + (wrap64 (2 * t262)))⟩ : S48)]) x5_1 (wrap64 ((wrap64 ((wrap64 ((wrap64 (Int.tdiv (wrap64 ((wrap64 (x6_2 + (wrap64 (2 + (wrap64 (2 * t262)))))) - 1)) (wrap64 (2 + (wrap64 (2 * t262)))))) * (wrap64 (2 + (wrap64 (2 * t262)))))) + (wrap64 ((wrap64 (2 + (wrap64 (2 * t262)))) * t264)))) + (wrap64 (2 + (wrap64 (2 * t262)))))) (wrap64 (x7_2 + 1))) else (none)) = some (r1, r2) := H
             have A12 := Aside0.mk A120
             clear A120
             by_cases c13 : x4_2.length < 5864062014805
             ·
              rw [if_pos c13] at H
              have LMc13 := Aside0.mk c13
              clear c13
              obtain ⟨y265, hy265⟩ : ∃ y_ : List (S48), y_ = (x4_2 ++ [(⟨x5_1, wrap64 ((wrap64 ((wrap64 (Int.tdiv (wrap64 ((wrap64 (x6_2 + (wrap64 (2 + (wrap64 (2 * t262)))))) - 1)) (wrap64 (2 + (wrap64 (2 * t262)))))) * (wrap64 (2 + (wrap64 (2 * t262)))))) + (wrap64 ((wrap64 (2 + (wrap64 (2 * t262)))) * t264))), wrap64 (2 + (wrap64 (2 * t262)))⟩ : S48)]) := ⟨_, rfl⟩
              replace H : (busbarlaw14_All.l1 kj2 l0 y265 x5_1 (wrap64 ((wrap64 ((wrap64 ((wrap64 (Int.tdiv (wrap64 ((wrap64 (x6_2 + (wrap64 (2 + (wrap64 (2 * t262)))))) - 1)) (wrap64 (2 + (wrap64 (2 * t262)))))) * (wrap64 (2 + (wrap64 (2 * t262)))))) + (wrap64 ((wrap64 (2 + (wrap64 (2 * t262)))) * t264)))) + (wrap64 (2 + (wrap64 (2 * t262)))))) (wrap64 (x7_2 + 1))) = some (r1, r2) := by first | (rw [hy265]; with_reducible exact H) | (have H2_ := (Option.bind_some _ _).symm.trans H; rw [hy265]; with_reducible exact H2_) | (have H2_ := (Option.bind_some _ _).symm.trans H; with_reducible exact H2_) | with_reducible exact H | (rw [hy265]; exact H) | exact H
              have Ny265 := Aside0.mk hy265
              clear hy265
              have H' := Aside0.mk H
              clear H
              have p259 : 0 ≤ (x7_2 : Int) := of_decide_eq_true (by first | (with_reducible assumption) | assumption)
              have q259 : x7_2 < (l0.length : Int) := of_decide_eq_true (by first | (with_reducible assumption) | assumption)
              obtain ⟨ad259, e259, hx259_0⟩ := Kd.at_int HR0.out x7_2 p259 q259
              cases e259
              replace hx259_0 := (HB.out.cell (World.block_lt_of_cell? w _ hx259_0)).trans hx259_0
              replace p259 := eq_true p259
              replace q259 := eq_true q259
              go_wp2_with (first | ((with_reducible refine gate_callee (f := 12) rfl ?_); refine goesL_ (some 27) rfl rfl Try.func12 (by kernel_rfl) rfl #[.int .i64 (rd l0 x7_2), .int .i64 2] rfl (by (try simp only [List.map_toArray, List.map_cons, List.map_nil]); first | done | rfl | (simp only [List.length_drop, List.length_take]; rfl)) ?_; (with_reducible refine (busbarlaw0_Within.calls (rd l0 x7_2) 2 t260 _ A8.out).mono ?_); rintro e w' ⟨rfl, ⟨nd, rfl⟩⟩; refine ⟨_, rfl, ?_⟩; have p261 : 0 ≤ (x7_2 : Int) := of_decide_eq_true (by first | (with_reducible assumption) | assumption); have q261 : x7_2 < (l0.length : Int) := of_decide_eq_true (by first | (with_reducible assumption) | assumption); obtain ⟨ad261, e261, hx261_0⟩ := Kd.at_int HR0.out x7_2 p261 q261; obtain rfl : ad259 = ad261 := (by injection e261); replace hx261_0 := (HB.out.cell (World.block_lt_of_cell? w _ hx261_0)).trans hx261_0; replace p261 := eq_true p261; replace q261 := eq_true q261) | ((with_reducible refine gate_callee (f := 27) rfl ?_); refine goesL_ (some 35) rfl rfl Try.func27 (by kernel_rfl) rfl #[.int .i64 (rd l0 x7_2), .int .i64 2, .int .i64 2] rfl (by (try simp only [List.map_toArray, List.map_cons, List.map_nil]); first | done | rfl | (simp only [List.length_drop, List.length_take]; rfl)) ?_; (with_reducible refine (busbarlaw0_Digit.calls (rd l0 x7_2) 2 2 t262 _ A10.out).mono ?_); rintro e w' ⟨rfl, ⟨nd, rfl⟩⟩; refine ⟨_, rfl, ?_⟩; have p263 : 0 ≤ (x7_2 : Int) := of_decide_eq_true (by first | (with_reducible assumption) | assumption); have q263 : x7_2 < (l0.length : Int) := of_decide_eq_true (by first | (with_reducible assumption) | assumption); obtain ⟨ad263, e263, hx263_0⟩ := Kd.at_int HR0.out x7_2 p263 q263; obtain rfl : ad259 = ad263 := (by injection e263); replace hx263_0 := (HB.out.cell (World.block_lt_of_cell? w _ hx263_0)).trans hx263_0; replace p263 := eq_true p263; replace q263 := eq_true q263) | ((with_reducible refine gate_callee (f := 27) rfl ?_); refine goesL_ (some 52) rfl rfl Try.func27 (by kernel_rfl) rfl #[.int .i64 (rd l0 x7_2), .int .i64 4, .int .i64 3] rfl (by (try simp only [List.map_toArray, List.map_cons, List.map_nil]); first | done | rfl | (simp only [List.length_drop, List.length_take]; rfl)) ?_; (with_reducible refine (busbarlaw0_Digit.calls (rd l0 x7_2) 4 3 t264 _ A12.out).mono ?_); rintro e w' ⟨rfl, ⟨nd, rfl⟩⟩; refine ⟨_, rfl, ?_⟩) | ((with_reducible refine gate_builtin (b := .append) (xs := #[.tmp 55, .tmp 60]) rfl ?_); at_builtin; refine Kd.R_append k48 (w0 := w) w.heap.size rfl (.tmp 55) (.tmp 60) 23 48 (.agg #[(.int .i64 0), (.int .i64 0), (.int .i64 0)]) 24 rfl Try.underlying23 info48 rfl (by decide) (by omega) u4 x4_2 (⟨x5_1, wrap64 ((wrap64 ((wrap64 (Int.tdiv (wrap64 ((wrap64 (x6_2 + (wrap64 (2 + (wrap64 (2 * t262)))))) - 1)) (wrap64 (2 + (wrap64 (2 * t262)))))) * (wrap64 (2 + (wrap64 (2 * t262)))))) + (wrap64 ((wrap64 (2 + (wrap64 (2 * t262)))) * t264))), wrap64 (2 + (wrap64 (2 * t262)))⟩ : S48) [.int .i64 x5_1, .int .i64 (wrap64 ((wrap64 ((wrap64 (Int.tdiv (wrap64 ((wrap64 (x6_2 + (wrap64 (2 + (wrap64 (2 * t262)))))) - 1)) (wrap64 (2 + (wrap64 (2 * t262)))))) * (wrap64 (2 + (wrap64 (2 * t262)))))) + (wrap64 ((wrap64 (2 + (wrap64 (2 * t262)))) * t264)))), .int .i64 (wrap64 (2 + (wrap64 (2 * t262))))] (fun _ => True) (fun _ => False) rfl rfl ?aP (fun _ hk => hk.elim) ?aF ?aO ?aB ?aS ?aL ?_; (case aP => exact k48_mkM _ _ _ (⟨x5_1, wrap64 ((wrap64 ((wrap64 (Int.tdiv (wrap64 ((wrap64 (x6_2 + (wrap64 (2 + (wrap64 (2 * t262)))))) - 1)) (wrap64 (2 + (wrap64 (2 * t262)))))) * (wrap64 (2 + (wrap64 (2 * t262)))))) + (wrap64 ((wrap64 (2 + (wrap64 (2 * t262)))) * t264))), wrap64 (2 + (wrap64 (2 * t262)))⟩ : S48)); (case aB => exact (by repeat (first | (with_reducible first | exact HB.out | apply below_alloc | apply pw_below_drewN | apply below_drew1) | exact HB.out))); (case aF => exact (fun _ _ => trivial)); (case aO => exact (by (with_reducible repeat (first | apply Kd.R_alloc | apply Kd.R_drewN | apply Kd.R_drew)); exact HO_4.out)); (case aS => exact (below_size (by repeat (first | (with_reducible first | exact HB.out | apply below_alloc | apply pw_below_drewN | apply below_drew1) | exact HB.out)))); (case aL => have := LMc13.out; omega); intro v266 w14 ho hb hg hat; rw [← Ny265.out] at ho; have n0_ := Aside0.mk (hb); have n1_ := Aside0.mk (ho); clear HB; clear HO_4; have HB := n0_; have HO267 := n1_; clear n0_ n1_; clear ho hb hg hat))
              go_roundg kj2
              case measure => have := HK1.out; have := HK2.out; have := HJ2.out; omega
              case rel => exact ⟨(y265), (wrap64 ((wrap64 ((wrap64 ((wrap64 (Int.tdiv (wrap64 ((wrap64 (x6_2 + (wrap64 (2 + (wrap64 (2 * t262)))))) - 1)) (wrap64 (2 + (wrap64 (2 * t262)))))) * (wrap64 (2 + (wrap64 (2 * t262)))))) + (wrap64 ((wrap64 (2 + (wrap64 (2 * t262)))) * t264)))) + (wrap64 (2 + (wrap64 (2 * t262)))))), (wrap64 (x7_2 + 1)), (by first | rfl | (simp; done) | (simp [*]; done)), (by first | rfl | (simp; done) | (simp [*]; done)), H', ⟨by have := HK1.out; have := HK2.out; have := HJ2.out; omega⟩, ⟨by (with_reducible repeat (first | apply Kd.R_alloc | apply Kd.R_drewN | apply Kd.R_drew)); exact HO267.out⟩, ⟨by repeat (first | (with_reducible first | exact HB.out | apply below_alloc | apply pw_below_drewN | apply below_drew1) | exact HB.out)⟩⟩
             ·
              rw [if_neg c13] at H
              exact absurd H (by simp)
           ·
            rw [if_neg c9] at H
            have c9b0 : (t260 == (wrap64 (x5_1 - 2))) = false := beq_eq_false_iff_ne.mpr c9
            have c9b1 : (t260 != (wrap64 (x5_1 - 2))) = true := bne_iff_ne.mpr c9
            have H' := Aside0.mk H
            clear H
            have p259 : 0 ≤ (x7_2 : Int) := of_decide_eq_true (by first | (with_reducible assumption) | assumption)
            have q259 : x7_2 < (l0.length : Int) := of_decide_eq_true (by first | (with_reducible assumption) | assumption)
            obtain ⟨ad259, e259, hx259_0⟩ := Kd.at_int HR0.out x7_2 p259 q259
            cases e259
            replace hx259_0 := (HB.out.cell (World.block_lt_of_cell? w _ hx259_0)).trans hx259_0
            replace p259 := eq_true p259
            replace q259 := eq_true q259
            go_wp2_with (first | ((with_reducible refine gate_callee (f := 12) rfl ?_); refine goesL_ (some 27) rfl rfl Try.func12 (by kernel_rfl) rfl #[.int .i64 (rd l0 x7_2), .int .i64 2] rfl (by (try simp only [List.map_toArray, List.map_cons, List.map_nil]); first | done | rfl | (simp only [List.length_drop, List.length_take]; rfl)) ?_; (with_reducible refine (busbarlaw0_Within.calls (rd l0 x7_2) 2 t260 _ A8.out).mono ?_); rintro e w' ⟨rfl, ⟨nd, rfl⟩⟩; refine ⟨_, rfl, ?_⟩))
            go_roundg kj2
            case measure => have := HK1.out; have := HK2.out; have := HJ2.out; omega
            case rel => exact ⟨(x4_2), (x6_2), (wrap64 (x7_2 + 1)), (by first | rfl | (simp; done) | (simp [*]; done)), (by first | rfl | (simp; done) | (simp [*]; done)), H', ⟨by have := HK1.out; have := HK2.out; have := HJ2.out; omega⟩, ⟨by (with_reducible repeat (first | apply Kd.R_alloc | apply Kd.R_drewN | apply Kd.R_drew)); exact HO_4.out⟩, ⟨by repeat (first | (with_reducible first | exact HB.out | apply below_alloc | apply pw_below_drewN | apply below_drew1) | exact HB.out)⟩⟩
          ·
           rw [if_neg c7] at H
           exact absurd H (by simp)
         ·
          rw [if_neg c6] at H
          exact absurd H (by simp)
        ·
         replace c5 := Bool.eq_false_iff.mpr c5
         subst c5
         have H1 : (busbarlaw14_All.l0 kj2 l0 x4_2 (wrap64 (x5_1 + 1))) = some (r1, r2) := by rw [if_neg (show ¬ (false = true) by decide)] at H; exact H
         clear H
         have H := H1
         clear H1
         have H' := Aside0.mk H
         clear H
         go_wp2
         go_roundg kj2
         case measure => have := HK1.out; have := HK2.out; have := HJ2.out; omega
         case rel => exact ⟨(x4_2), (wrap64 (x5_1 + 1)), (by first | rfl | (simp; done) | (simp [*]; done)), H', ⟨by have := HK1.out; have := HK2.out; have := HJ2.out; omega⟩, ⟨by (with_reducible repeat (first | apply Kd.R_alloc | apply Kd.R_drewN | apply Kd.R_drew)); exact HO_4.out⟩, ⟨by repeat (first | (with_reducible first | exact HB.out | apply below_alloc | apply pw_below_drewN | apply below_drew1) | exact HB.out)⟩⟩
   ·
    rw [if_neg c2] at H
    have c2b0 : decide (x5_1 < 4) = false := decide_eq_false c2
    clear c2
    obtain ⟨y256, hy256⟩ : ∃ y_ : List (S46), y_ = (([(⟨2, 0, 65536⟩ : S46), (⟨3, 0, 65536⟩ : S46)] : List (S46))) := ⟨_, rfl⟩
    replace H : (some (x4_1, y256)) = some (r1, r2) := by first | (rw [hy256]; with_reducible exact H) | (have H2_ := (Option.bind_some _ _).symm.trans H; rw [hy256]; with_reducible exact H2_) | (have H2_ := (Option.bind_some _ _).symm.trans H; with_reducible exact H2_) | with_reducible exact H | (rw [hy256]; exact H) | exact H
    have Ny256 := Aside0.mk hy256
    clear hy256
    simp only [Option.some.injEq, Prod.mk.injEq] at H
    obtain ⟨rfl, rfl⟩ := H
    go_wp2_with (first | ((with_reducible refine gate_dst (N := 68) rfl ?_); refine Kd.R_lit k46 _ 46 ?hg (N := 68) ?hd (xs := ([(⟨2, 0, 65536⟩ : S46), (⟨3, 0, 65536⟩ : S46)] : List (S46))) (inner := [.int .i64 2, .int .i64 0, .int .i64 65536, .int .i64 3, .int .i64 0, .int .i64 65536]) (ok := fun _ => True) (okp := fun _ => True) ?hr ?hp (fun _ hk => hk) trivial (Below.refl _ _) (Nat.le_refl _) (by simp) ?_; (case hd => rfl); (case hg => rfl); (case hr => first | (go_simp; done) | (go_simp; rfl)); (case hp => exact (Reps.c3 (show Kd.M k46 _ _ _ (⟨2, 0, 65536⟩ : S46) [.int .i64 2, .int .i64 0, .int .i64 65536] from (k46_mkM _ _ _ (⟨2, 0, 65536⟩ : S46) )) (Reps.c3 (show Kd.M k46 _ _ _ (⟨3, 0, 65536⟩ : S46) [.int .i64 3, .int .i64 0, .int .i64 65536] from (k46_mkM _ _ _ (⟨3, 0, 65536⟩ : S46) )) (Reps.none _ _)))); intro v257 w15 ho16 hb hg_ hnew_; clear hg_ hnew_; (first | rw [← Ny256.out] at ho16 | (simp only [Int.reduceToNat] at ho16; rw [← Ny256.out] at ho16)); have n0_ := Aside0.mk (Kd.R_below (by (with_reducible repeat (first | apply Kd.R_alloc | apply Kd.R_drewN | apply Kd.R_drew)); exact HO_4.out) hb); have n1_ := Aside0.mk (Kd.R_lower ho16 (below_size (by repeat (first | (with_reducible first | exact HB.out | apply below_alloc | apply pw_below_drewN | apply below_drew1) | exact HB.out)))); have n2_ := Aside0.mk (below_step (by repeat (first | (with_reducible first | exact HB.out | apply below_alloc | apply pw_below_drewN | apply below_drew1) | exact HB.out)) hb); clear HO_4; clear HB; have HO_4 := n0_; have HO258 := n1_; have HB := n2_; clear n0_ n1_ n2_; clear hb ho16))
    go_ret2
    exact ⟨_, _, by first | rfl | (simp [errW_none, errW_some] <;> rfl) | (simp [*, errW_none, errW_some] <;> rfl), by (with_reducible repeat (first | apply Kd.R_alloc | apply Kd.R_drewN | apply Kd.R_drew)); exact HO_4.out, by (with_reducible repeat (first | apply Kd.R_alloc | apply Kd.R_drewN | apply Kd.R_drew)); exact HO258.out, by repeat (first | (with_reducible first | exact HB.out | apply below_alloc | apply pw_below_drewN | apply below_drew1) | exact HB.out)⟩
end Go.Proofs.Ytjlbgopgeepiaaa.PConf
set_option linter.unusedVariables false
set_option linter.unusedSimpArgs false
namespace Go.Proofs.Ytjlbgopgeepiaaa.LemGroupConf
open Go.RowKit Go.Proofs.Ytjlbgopgeepiaaa.PConf Go.Proofs.YtjlbgopgeepiaaaW.PrintWords Go.Proofs.YtjlbgopgeepiaaaW.PrintLast Go.Proofs.YtjlbgopgeepiaaaW.PrintMore Go.Proofs.Ytjlbgopgeepiaaa.Num Go.Proofs.Ytjlbgopgeepiaaa.LemWithinConf Go.Proofs.Ytjlbgopgeepiaaa.LemDigitConf
abbrev Gr := S48
def Spl (g : Gr) (t a b : Int) : Prop := g.f0 = t ∧ a < b ∧ g.f1 < b ∧ a < g.f1 + g.f2 ∧ (g.f1 < a ∨ b < g.f1 + g.f2)
instance (g : Gr) (t a b : Int) : Decidable (Spl g t a b) := by unfold Spl; infer_instance
end Go.Proofs.Ytjlbgopgeepiaaa.LemGroupConf
set_option linter.unusedVariables false
set_option linter.unusedSimpArgs false
namespace Go.Proofs.Ytjlbgopgeepiaaa.LemGChkConf
open Go.RowKit Go.Proofs.Ytjlbgopgeepiaaa.PConf Go.Proofs.YtjlbgopgeepiaaaW.PrintWords Go.Proofs.YtjlbgopgeepiaaaW.PrintLast Go.Proofs.YtjlbgopgeepiaaaW.PrintMore Go.Proofs.Ytjlbgopgeepiaaa.Num Go.Proofs.Ytjlbgopgeepiaaa.LemWithinConf Go.Proofs.Ytjlbgopgeepiaaa.LemSpanConf Go.Proofs.Ytjlbgopgeepiaaa.LemSpanFoConf Go.Proofs.Ytjlbgopgeepiaaa.LemSpanFqConf Go.Proofs.Ytjlbgopgeepiaaa.LemGroupConf
theorem and1 (n : Int) : bits .and .i64 n 1 = n % 2 := by
  have h127 : (BitVec.ofInt 64 1).toNat = 2 ^ 1 - 1 := by decide
  have key : (BitVec.ofInt 64 n &&& BitVec.ofInt 64 1).toNat = (n % ((2 ^ 64 : Nat) : Int)).toNat % 2 ^ 1 := by
    rw [BitVec.toNat_and, BitVec.toNat_ofInt, h127, Nat.and_two_pow_sub_one_eq_mod]
  show IntKind.i64.wrap ((BitVec.ofInt 64 n &&& BitVec.ofInt 64 1).toNat : Nat) = n % 2
  rw [key, IntKind.wrap_i64]
  omega
theorem and3 (n : Int) : bits .and .i64 n 3 = n % 4 := by
  have h127 : (BitVec.ofInt 64 3).toNat = 2 ^ 2 - 1 := by decide
  have key : (BitVec.ofInt 64 n &&& BitVec.ofInt 64 3).toNat = (n % ((2 ^ 64 : Nat) : Int)).toNat % 2 ^ 2 := by
    rw [BitVec.toNat_and, BitVec.toNat_ofInt, h127, Nat.and_two_pow_sub_one_eq_mod]
  show IntKind.i64.wrap ((BitVec.ofInt 64 n &&& BitVec.ofInt 64 3).toNat : Nat) = n % 4
  rw [key, IntKind.wrap_i64]
  omega
def Ok1 (g : Gr) : Prop := (g.f0 = 2 ∨ g.f0 = 3) ∧ (g.f2 = 2 ∨ g.f2 = 4) ∧ 0 ≤ g.f1 ∧ g.f1 < 65536
instance (g : Gr) : Decidable (Ok1 g) := by unfold Ok1; infer_instance
def am (g : Gr) : Int := if Ok1 g then (if g.f1 % g.f2 = 0 then 0 else 2) else 1
theorem sized1 (n : Int) : group_sized.f n = some (decide (n = 2 ∨ n = 4)) := by
  unfold group_sized.f
  by_cases h : n = 2
  · rw [if_pos h, decide_eq_true (.inl h)]
  · rw [if_neg h]
    by_cases h4 : n = 4
    · rw [decide_eq_true (.inr h4), h4]; rfl
    · rw [decide_eq_false (by omega), beq_eq_false_iff_ne.2 h4]
theorem amiss_eq (g : Gr) {k : Nat} (hk : 1 ≤ k) : group_amiss.f k g.f0 g.f1 g.f2 = some (am g) := by
  obtain ⟨k, rfl⟩ : ∃ m, k = m + 1 := ⟨k - 1, by omega⟩
  have hj : ¬ Ok1 g → group_amiss.j0 (k + 1) true g.f0 g.f1 g.f2 = some (am g) := fun h => by
    unfold am
    rw [group_amiss.j0, if_pos rfl, if_neg h]
  have hj2 : (g.f0 = 2 ∨ g.f0 = 3) → ((group_sized.f g.f2).bind fun t => (if t = true then (if g.f1 < 0 then (group_amiss.j0 (k + 1) true g.f0 g.f1 g.f2) else (group_amiss.j0 (k + 1) (decide (g.f1 ≥ 65536)) g.f0 g.f1 g.f2)) else (group_amiss.j0 (k + 1) true g.f0 g.f1 g.f2))) = some (am g) := fun ht => by
    rw [sized1, Option.bind_some]
    by_cases hs : g.f2 = 2 ∨ g.f2 = 4
    · rw [decide_eq_true hs, if_pos rfl]
      by_cases h0 : g.f1 < 0
      · rw [if_pos h0, hj (by unfold Ok1; omega)]
      · rw [if_neg h0]
        by_cases h1 : g.f1 ≥ 65536
        · rw [decide_eq_true h1, hj (by unfold Ok1; omega)]
        · have ho : Ok1 g := by unfold Ok1; omega
          rw [decide_eq_false h1, group_amiss.j0, if_neg (by decide)]
          unfold am
          rw [if_pos ho]
          rcases hs with hs | hs
          · rw [hs, show wrap64 (2 - 1) = 1 from wrap64_id (by omega) (by omega), and1]
            split <;> rfl
          · rw [hs, show wrap64 (4 - 1) = 3 from wrap64_id (by omega) (by omega), and3]
            split <;> rfl
    · rw [decide_eq_false hs, if_neg (by decide), hj (by unfold Ok1; omega)]
  unfold group_amiss.f
  by_cases h2 : g.f0 = 2
  · rw [if_pos h2, hj2 (.inl h2)]
  · rw [if_neg h2]
    by_cases h3 : g.f0 = 3
    · rw [if_pos h3, hj2 (.inr h3)]
    · rw [if_neg h3, hj (by unfold Ok1; omega)]
def bh (p g : Gr) : Prop := p.f0 < g.f0 ∨ (p.f0 = g.f0 ∧ wrap64 (p.f1 + p.f2) ≤ g.f1)
instance (p g : Gr) : Decidable (bh p g) := by unfold bh; infer_instance
theorem behind_eq (g p : Gr) : group_behind.f g.f0 g.f1 g.f2 p.f0 p.f1 p.f2 = some (decide (bh p g)) := by
  unfold group_behind.f
  by_cases h : g.f0 > p.f0
  · rw [if_pos h, decide_eq_true (show bh p g from .inl h)]
  · rw [if_neg h]
    by_cases h2 : g.f0 = p.f0
    · rw [if_pos h2]
      by_cases h3 : g.f1 ≥ wrap64 (p.f1 + p.f2)
      · rw [decide_eq_true h3, decide_eq_true (show bh p g from .inr ⟨h2.symm, h3⟩)]
      · rw [decide_eq_false h3, decide_eq_false (show ¬ bh p g by unfold bh; omega)]
    · rw [if_neg h2, decide_eq_false (show ¬ bh p g by unfold bh; omega)]
def rw_ (g : Gr) : S := ⟨g.f0, g.f1, wrap64 (g.f1 + g.f2)⟩
theorem rw_rt (g : Gr) (h : Ok1 g) (h2 : g.f1 % g.f2 = 0) : Rt (rw_ g) := by
  unfold Ok1 at h
  unfold Rt rw_
  rw [wrap64_id (by omega) (by omega)]
  dsimp only
  rcases h.2.1 with h3 | h3 <;> rw [h3] at h2 ⊢ <;> omega
def gch (l : List Gr) (m : List S) : Nat → Nat → Int
  | 0, _ => 0
  | d + 1, i => if am (rd_T48 l (i : Int)) ≠ 0 then am (rd_T48 l (i : Int)) else if i > 0 ∧ ¬ bh (rd_T48 l ((i : Int) - 1)) (rd_T48 l (i : Int)) then 2 else if Covers m (rw_ (rd_T48 l (i : Int))) then gch l m d (i + 1) else 5
theorem gch_succ (l : List Gr) (m : List S) (d i : Nat) : gch l m (d + 1) i = if am (rd_T48 l (i : Int)) ≠ 0 then am (rd_T48 l (i : Int)) else if i > 0 ∧ ¬ bh (rd_T48 l ((i : Int) - 1)) (rd_T48 l (i : Int)) then 2 else if Covers m (rw_ (rd_T48 l (i : Int))) then gch l m d (i + 1) else 5 := rfl
theorem am_zero (g : Gr) (h : am g = 0) : Ok1 g ∧ g.f1 % g.f2 = 0 := by
  unfold am at h
  split at h
  · split at h
    · exact ⟨‹_›, ‹_›⟩
    · omega
  · omega
theorem check_loop (l : List Gr) (m : List S) (hl : l.length ≤ 100000) (hm : m.length ≤ 100000) : ∀ (d i k : Nat), i + d = l.length → m.length + 2 * d + 2 < k → group_Check.l0 k l m l (l.length : Int) (i : Int) = some (gch l m d i)
  | 0, i, k, h, hk => by
    obtain ⟨k, rfl⟩ : ∃ m, k = m + 1 := ⟨k - 1, by omega⟩
    rw [group_Check.l0, if_neg (by omega)]
    rfl
  | d + 1, i, k, h, hk => by
    obtain ⟨k, rfl⟩ : ∃ m, k = m + 2 := ⟨k - 2, by omega⟩
    have ih := check_loop l m hl hm d (i + 1) k (by omega) (by omega)
    have hw : wrap64 ((i : Int) + 1) = ((i + 1 : Nat) : Int) := by rw [wrap64_id (by omega) (by omega)]; rfl
    rw [group_Check.l0, if_pos (by omega), if_pos (by omega), if_pos (by omega), amiss_eq _ (by omega), Option.bind_some, gch_succ]
    generalize hg : rd_T48 l (i : Int) = g
    by_cases ha : am g = 0
    · have hok := am_zero g ha
      have hj : group_Check.j1 (k + 1) l m l (l.length : Int) (i : Int) false g.f0 g.f1 g.f2 = some (if Covers m (rw_ g) then gch l m d (i + 1) else 5) := by
        rw [group_Check.j1, if_neg (by decide)]
        unfold group_row.f
        rw [Option.bind_some]
        have e := covers_eq m (rw_ g) (rw_rt g hok.1 hok.2) hm (k := k) (by omega)
        refine (congrArg (fun z => Option.bind z _) e).trans ?_
        rw [Option.bind_some, hw, ih]
        by_cases hc : Covers m (rw_ g)
        · rw [decide_eq_true hc, if_pos rfl, if_pos hc]
        · rw [decide_eq_false hc, if_neg (by decide), if_neg hc]
      rw [if_pos ha, if_neg (show ¬ (am g ≠ 0) by simp [ha])]
      by_cases h0 : i = 0
      · rw [if_neg (by omega), if_neg (show ¬ (i > 0 ∧ ¬ bh (rd_T48 l ((i : Int) - 1)) g) by omega), hj]
      · rw [if_pos (by omega), wrap64_id (x := (i : Int) - 1) (by omega) (by omega), if_pos (by omega), if_pos (by omega), behind_eq, Option.bind_some]
        by_cases hb : bh (rd_T48 l ((i : Int) - 1)) g
        · rw [decide_eq_true hb, Bool.not_true, if_neg (show ¬ (i > 0 ∧ ¬ bh (rd_T48 l ((i : Int) - 1)) g) from fun h => h.2 hb), hj]
        · rw [decide_eq_false hb, Bool.not_false, group_Check.j1, if_pos rfl, if_pos ⟨by omega, hb⟩]
    · rw [if_neg ha, if_pos ha]
def gchk (l : List Gr) (m : List S) : Int := gch l m l.length 0
theorem gcheck_eq (l : List Gr) (m : List S) (hl : l.length ≤ 100000) (hm : m.length ≤ 100000) {k : Nat} (hk : m.length + 2 * l.length + 2 < k) : group_Check.f k l m = some (gchk l m) := check_loop l m hl hm l.length 0 k (by omega) hk
end Go.Proofs.Ytjlbgopgeepiaaa.LemGChkConf
set_option linter.unusedVariables false
set_option linter.unusedSimpArgs false
namespace Go.Proofs.Ytjlbgopgeepiaaa.LemConfConf
open Go.RowKit Go.Proofs.Ytjlbgopgeepiaaa.PConf Go.Proofs.YtjlbgopgeepiaaaW.PrintWords Go.Proofs.YtjlbgopgeepiaaaW.PrintLast Go.Proofs.YtjlbgopgeepiaaaW.PrintMore Go.Proofs.Ytjlbgopgeepiaaa.Num Go.Proofs.Ytjlbgopgeepiaaa.LemWithinConf Go.Proofs.Ytjlbgopgeepiaaa.LemDigitConf Go.Proofs.Ytjlbgopgeepiaaa.LemSpanConf Go.Proofs.Ytjlbgopgeepiaaa.LemCheckConf Go.Proofs.Ytjlbgopgeepiaaa.LemGroupConf Go.Proofs.Ytjlbgopgeepiaaa.LemGChkConf Go.Proofs.Ytjlbgopgeepiaaa.LemIdenConf
theorem c_within (a lo hi : Int) : conf_within.f a lo hi = some (decide (lo ≤ a ∧ a ≤ hi)) := by
  unfold conf_within.f
  by_cases h : a ≥ lo
  · rw [if_pos h]
    congr 1
    rw [decide_eq_decide]
    omega
  · rw [if_neg h, decide_eq_false (by omega)]
def InR (a3 a4 a5 a6 a7 a8 a9 a10 : Int) : Prop := (1 ≤ a3 ∧ a3 ≤ 65535) ∧ (1 ≤ a4 ∧ a4 ≤ 32) ∧ (0 ≤ a5 ∧ a5 ≤ 32) ∧ (0 ≤ a6 ∧ a6 ≤ 1048576) ∧ (1 ≤ a7 ∧ a7 ≤ 1000) ∧ (1 ≤ a8 ∧ a8 ≤ 5000) ∧ (260 ≤ a9 ∧ a9 ≤ 65536) ∧ (260 ≤ a10 ∧ a10 ≤ 65536)
instance (a3 a4 a5 a6 a7 a8 a9 a10 : Int) : Decidable (InR a3 a4 a5 a6 a7 a8 a9 a10) := by unfold InR; infer_instance
def tail (k : Nat) (m : List S46) (g : List S48) (w : Int) (o : List S50) : Option Int := (plan_Check.f k m w).bind fun t162 => (if t162 = 0 then ((group_Check.f k g m).bind fun t163 => (if t163 = 0 then ((iden_Check.f k o).bind fun t164 => (some t164)) else (some t163))) else (some t162))
theorem conf_f (k : Nat) (m : List S46) (g : List S48) (w a3 a4 a5 a6 a7 a8 a9 a10 a11 : Int) (o : List S50) : conf_Check.f (k + 1) m g w a3 a4 a5 a6 a7 a8 a9 a10 a11 o = if InR a3 a4 a5 a6 a7 a8 a9 a10 then tail k m g w o else some 1 := by
  have hj : conf_Check.j0 (k + 1) true m g w a3 a4 a5 a6 a7 a8 a9 a10 a11 o = some 1 := by rw [conf_Check.j0, if_pos rfl]
  unfold conf_Check.f
  rw [c_within, Option.bind_some]
  by_cases h3 : 1 ≤ a3 ∧ a3 ≤ 65535
  · rw [decide_eq_true h3, if_pos rfl, c_within, Option.bind_some]
    by_cases h4 : 1 ≤ a4 ∧ a4 ≤ 32
    · rw [decide_eq_true h4, if_pos rfl, c_within, Option.bind_some]
      by_cases h5 : 0 ≤ a5 ∧ a5 ≤ 32
      · rw [decide_eq_true h5, if_pos rfl, c_within, Option.bind_some]
        by_cases h6 : 0 ≤ a6 ∧ a6 ≤ 1048576
        · rw [decide_eq_true h6, if_pos rfl, c_within, Option.bind_some]
          by_cases h7 : 1 ≤ a7 ∧ a7 ≤ 1000
          · rw [decide_eq_true h7, if_pos rfl, c_within, Option.bind_some]
            by_cases h8 : 1 ≤ a8 ∧ a8 ≤ 5000
            · rw [decide_eq_true h8, if_pos rfl, c_within, Option.bind_some]
              by_cases h9 : 260 ≤ a9 ∧ a9 ≤ 65536
              · rw [decide_eq_true h9, if_pos rfl, c_within, Option.bind_some]
                by_cases h10 : 260 ≤ a10 ∧ a10 ≤ 65536
                · rw [decide_eq_true h10, Bool.not_true, conf_Check.j0, if_neg (by decide), if_pos (show InR a3 a4 a5 a6 a7 a8 a9 a10 from ⟨h3, h4, h5, h6, h7, h8, h9, h10⟩)]
                  rfl
                · rw [decide_eq_false h10, Bool.not_false, hj, if_neg (fun h : InR a3 a4 a5 a6 a7 a8 a9 a10 => h10 h.2.2.2.2.2.2.2)]
              · rw [decide_eq_false h9, if_neg (by decide), hj, if_neg (fun h : InR a3 a4 a5 a6 a7 a8 a9 a10 => h9 h.2.2.2.2.2.2.1)]
            · rw [decide_eq_false h8, if_neg (by decide), hj, if_neg (fun h : InR a3 a4 a5 a6 a7 a8 a9 a10 => h8 h.2.2.2.2.2.1)]
          · rw [decide_eq_false h7, if_neg (by decide), hj, if_neg (fun h : InR a3 a4 a5 a6 a7 a8 a9 a10 => h7 h.2.2.2.2.1)]
        · rw [decide_eq_false h6, if_neg (by decide), hj, if_neg (fun h : InR a3 a4 a5 a6 a7 a8 a9 a10 => h6 h.2.2.2.1)]
      · rw [decide_eq_false h5, if_neg (by decide), hj, if_neg (fun h : InR a3 a4 a5 a6 a7 a8 a9 a10 => h5 h.2.2.1)]
    · rw [decide_eq_false h4, if_neg (by decide), hj, if_neg (fun h : InR a3 a4 a5 a6 a7 a8 a9 a10 => h4 h.2.1)]
  · rw [decide_eq_false h3, if_neg (by decide), hj, if_neg (fun h : InR a3 a4 a5 a6 a7 a8 a9 a10 => h3 h.1)]
def OkO (l : List S50) : Prop := l.Pairwise (fun a b => a.f0 < b.f0) ∧ (∀ x ∈ l, 0 ≤ x.f0 ∧ x.f0 ≤ 255 ∧ x.f1.size ≤ 244) ∧ ∃ a b c t, l = a :: b :: c :: t ∧ a.f0 = 0 ∧ b.f0 = 1 ∧ c.f0 = 2
theorem ok_l1 (l : List S50) (hl : l.length ≤ 1000) (h : OkO l) : ∀ (d i k : Nat), i + d = l.length → d + 6 ≤ k → busbarref5_Objects.l1 k l (i : Int) = some 0
  | 0, i, k, hi, hk => by
    obtain ⟨k, rfl⟩ : ∃ m, k = m + 5 := ⟨k - 5, by omega⟩
    obtain ⟨a, b, c, t, rfl, e0, e1, e2⟩ := h.2.2
    have hl3 : (a :: b :: c :: t).length = t.length + 3 := rfl
    have w1 : wrap64 ((0 : Int) + 1) = 1 := wrap64_id (by omega) (by omega)
    have w2 : wrap64 ((1 : Int) + 1) = 2 := wrap64_id (by omega) (by omega)
    have w3 : wrap64 ((2 : Int) + 1) = 3 := wrap64_id (by omega) (by omega)
    have r0 : (rd_T50 (a :: b :: c :: t) 0).f0 = 0 := e0
    have r1 : (rd_T50 (a :: b :: c :: t) 1).f0 = 1 := e1
    have r2 : (rd_T50 (a :: b :: c :: t) 2).f0 = 2 := e2
    rw [busbarref5_Objects.l1, if_neg (by omega), busbarref5_Objects.l2, if_pos (by omega), if_neg (by omega), if_pos (by omega), if_pos (by omega), if_pos r0, w1,
      busbarref5_Objects.l2, if_pos (by omega), if_neg (by omega), if_pos (by omega), if_pos (by omega), if_pos r1, w2,
      busbarref5_Objects.l2, if_pos (by omega), if_neg (by omega), if_pos (by omega), if_pos (by omega), if_pos r2, w3, busbarref5_Objects.l2, if_neg (by omega)]
  | d + 1, i, k, hi, hk => by
    obtain ⟨k, rfl⟩ : ∃ m, k = m + 1 := ⟨k - 1, by omega⟩
    have hlen : i < l.length := by omega
    have hs := (h.2.1 l[i] (List.getElem_mem hlen)).2.2
    rw [busbarref5_Objects.l1, if_pos (by omega), if_pos (by omega), rd50 l i hlen, if_neg (by omega), wrap64_id (by omega) (by omega)]
    exact ok_l1 l hl h d (i + 1) k (by omega) (by omega)
theorem ok_l0 (l : List S50) (hl : l.length ≤ 1000) (h : OkO l) : ∀ (d i k : Nat), i + d = l.length → d + l.length + 8 ≤ k → busbarref5_Objects.l0 k l (i : Int) = some 0
  | 0, i, k, hi, hk => by
    obtain ⟨k, rfl⟩ : ∃ m, k = m + 1 := ⟨k - 1, by omega⟩
    rw [busbarref5_Objects.l0, if_neg (by omega)]
    exact ok_l1 l hl h l.length 0 k (by omega) (by omega)
  | d + 1, i, k, hi, hk => by
    obtain ⟨k, rfl⟩ : ∃ m, k = m + 1 := ⟨k - 1, by omega⟩
    have hlen : i < l.length := by omega
    have hb := h.2.1 l[i] (List.getElem_mem hlen)
    have ih := ok_l0 l hl h d (i + 1) k (by omega) (by omega)
    have ec : wrap64 ((i : Int) + 1) = ((i + 1 : Nat) : Int) := by rw [wrap64_id (by omega) (by omega)]; omega
    rw [busbarref5_Objects.l0, if_pos (by omega), if_pos (by omega), rd50 l i hlen, byteful_eq, Option.bind_some, decide_eq_true ⟨hb.1, hb.2.1⟩, if_pos rfl]
    by_cases h0 : (i : Int) > 0
    · have hp : wrap64 ((i : Int) - 1) = ((i - 1 : Nat) : Int) := by rw [wrap64_id (by omega) (by omega)]; omega
      have hr := List.pairwise_iff_getElem.1 h.1 (i - 1) i (by omega) hlen (by omega)
      rw [if_pos h0, hp, if_pos (by omega), if_pos (by omega), rd50 l (i - 1) (by omega), if_neg (by omega), ec]
      exact ih
    · rw [if_neg h0, ec]
      exact ih
theorem iden_ok (l : List S50) (hl : l.length ≤ 1000) (h : OkO l) {k : Nat} (hk : 3008 ≤ k) : iden_Check.f k l = some 0 := by
  obtain ⟨v, h1, h2⟩ := iden_eq l (by omega) (k := k) (by omega)
  have h3 : busbarref5_Objects.f k l = some 0 := ok_l0 l hl h l.length 0 k (by omega) (by omega)
  rw [h1, ← h2, h3]
theorem rd_get (l : List Int) (i : Nat) (h : i < l.length) : rd l (i : Int) = l[i] := by simp [rd, List.getD_eq_getElem?_getD, List.getElem?_eq_getElem h]
def uobj : List S50 := [(⟨0, (⟨#[98, 117, 115, 98, 97, 114]⟩ : ByteArray)⟩ : S50), (⟨1, (⟨#[98, 49]⟩ : ByteArray)⟩ : S50), (⟨2, (⟨#[49, 46, 48]⟩ : ByteArray)⟩ : S50)]
end Go.Proofs.Ytjlbgopgeepiaaa.LemConfConf
namespace Go.Proofs.Ytjlbgopgeepiaaa.PConf
open Go.RowKit Go.Proofs.YtjlbgopgeepiaaaW.PrintWords Go.Proofs.YtjlbgopgeepiaaaW.PrintLast Go.Proofs.YtjlbgopgeepiaaaW.PrintMore
attribute [local go_sem] max2_int min2_int max_two min_two max_three min_three max_four min_four plus_setCell_drewN plus_cell_same   -- for this text's walks alone
set_option linter.unusedVariables false
set_option linter.unusedSimpArgs false
def conf_Usual.l0 : Nat → List Int → Int → Int → List (S46) → Int → Int → Int → Int → Int → Int → Int → Int → Int → Int → List (S50) → Option ((List (S46)) × (List (S48)) × Int × Int × Int × Int × Int × Int × Int × Int × Int × Int × (List (S50)))
 | 0, _, _, _, _, _, _, _, _, _, _, _, _, _, _, _ => none
 | k + 1, x9, x10, x11, x170000, x170002, x170003, x170004, x170005, x170006, x170007, x170008, x170009, x170010, x170011, x170012 => if x11 < x10 then (if 0 ≤ x11 then (if x11 < (x9.length : Int) then (if x170000.length < 5864062014805 then (conf_Usual.l0 k x9 x10 (wrap64 (x11 + 1)) (x170000 ++ [(⟨rd x9 x11, 0, 1000⟩ : S46)]) x170002 x170003 x170004 x170005 x170006 x170007 x170008 x170009 x170010 x170011 x170012) else (none)) else (none)) else (none)) else (some (x170000, ([] : List (S48)), x170002, x170003, x170004, x170005, x170006, x170007, x170008, x170009, x170010, x170011, x170012))
def conf_Usual.f (k : Nat)  : Option ((List (S46)) × (List (S48)) × Int × Int × Int × Int × Int × Int × Int × Int × Int × Int × (List (S50))) := (some (([0, 1, 2, 3] : List Int) : List Int)).bind fun y170 => (conf_Usual.l0 k y170 (y170.length : Int) 0 ([] : List (S46)) 60000 100 32 8 10000 100 500 1024 1024 0 (([(⟨0, (⟨#[98, 117, 115, 98, 97, 114]⟩ : ByteArray)⟩ : S50), (⟨1, (⟨#[98, 49]⟩ : ByteArray)⟩ : S50), (⟨2, (⟨#[49, 46, 48]⟩ : ByteArray)⟩ : S50)] : List (S50))))
theorem conf_Usual.mono_l : ∀ k, (∀ y0 y1 y2 y3 y4 y5 y6 y7 y8 y9 y10 y11 y12 y13 y14, LeO (conf_Usual.l0 k y0 y1 y2 y3 y4 y5 y6 y7 y8 y9 y10 y11 y12 y13 y14) (conf_Usual.l0 (k + 1) y0 y1 y2 y3 y4 y5 y6 y7 y8 y9 y10 y11 y12 y13 y14))
 | 0 => fun _ _ _ _ _ _ _ _ _ _ _ _ _ _ _ r h => by simp [conf_Usual.l0] at h
 | k + 1 => by
  have ih0 := conf_Usual.mono_l k
  ·
   intro y0 y1 y2 y3 y4 y5 y6 y7 y8 y9 y10 y11 y12 y13 y14
   unfold conf_Usual.l0
   repeat' first
   | (with_reducible exact ih0 _ _ _ _ _ _ _ _ _ _ _ _ _ _ _)
   | (with_reducible exact LeO.refl _)
   | (with_reducible exact LeO.none _)
   | (with_reducible refine LeO.ite ?_ ?_)
   | (with_reducible refine LeO.bind ?_ (fun _ => ?_))
   | exact ih0 _ _ _ _ _ _ _ _ _ _ _ _ _ _ _
   | exact LeO.none _
   | refine LeO.ite ?_ ?_
   | refine LeO.bind ?_ (fun _ => ?_)
theorem conf_Usual.mono : ∀ k, LeO (conf_Usual.f k ) (conf_Usual.f (k + 1) ) := by
 intro  k
 have ih0 := conf_Usual.mono_l k
 unfold conf_Usual.f
 repeat' first
   | (with_reducible exact ih0 _ _ _ _ _ _ _ _ _ _ _ _ _ _ _)
   | (with_reducible exact LeO.refl _)
   | (with_reducible exact LeO.none _)
   | (with_reducible refine LeO.ite ?_ ?_)
   | (with_reducible refine LeO.bind ?_ (fun _ => ?_))
   | exact ih0 _ _ _ _ _ _ _ _ _ _ _ _ _ _ _
   | exact LeO.none _
   | refine LeO.ite ?_ ?_
   | refine LeO.bind ?_ (fun _ => ?_)
set_option maxHeartbeats 8000000 in
set_option maxRecDepth 100000 in
theorem conf_Usual.calls (k : Nat)  (r1 : List (S46)) (r2 : List (S48)) (r3 : Int) (r4 : Int) (r5 : Int) (r6 : Int) (r7 : Int) (r8 : Int) (r9 : Int) (r10 : Int) (r11 : Int) (r12 : Int) (r13 : List (S50)) (w : World) (h : conf_Usual.f k  = some (r1, r2, r3, r4, r5, r6, r7, r8, r9, r10, r11, r12, r13)) :
  Calls Try.prog 13 #[] w fun e w' => ∃ v0_ v1_ v12_ : Value, e = .returned (.agg #[v0_, v1_, .int .i64 r3, .int .i64 r4, .int .i64 r5, .int .i64 r6, .int .i64 r7, .int .i64 r8, .int .i64 r9, .int .i64 r10, .int .i64 r11, .int .u64 r12, v12_]) ∧ Kd.R k46 46 w' w.heap.size (fun _ => True) v0_ r1 ∧ Kd.R k48 48 w' w.heap.size (fun _ => True) v1_ r2 ∧ Kd.R k50 50 w' w.heap.size (fun _ => True) v12_ r13 ∧ Below w.heap.size w w' := by
 have hu27 := Try.underlying27
 have hu50 := Try.underlying50
 have hu46 := Try.underlying46
 have HB := Aside0.mk (Below.refl w.heap.size w)
 have H : ((some (([0, 1, 2, 3] : List Int) : List Int)).bind fun y170 => (conf_Usual.l0 k y170 (y170.length : Int) 0 ([] : List (S46)) 60000 100 32 8 10000 100 500 1024 1024 0 (([(⟨0, (⟨#[98, 117, 115, 98, 97, 114]⟩ : ByteArray)⟩ : S50), (⟨1, (⟨#[98, 49]⟩ : ByteArray)⟩ : S50), (⟨2, (⟨#[49, 46, 48]⟩ : ByteArray)⟩ : S50)] : List (S50))))) = some (r1, r2, r3, r4, r5, r6, r7, r8, r9, r10, r11, r12, r13) := h
 clear h
 obtain ⟨y166, hy166⟩ : ∃ y_ : List (S50), y_ = (([(⟨0, (⟨#[98, 117, 115, 98, 97, 114]⟩ : ByteArray)⟩ : S50), (⟨1, (⟨#[98, 49]⟩ : ByteArray)⟩ : S50), (⟨2, (⟨#[49, 46, 48]⟩ : ByteArray)⟩ : S50)] : List (S50))) := ⟨_, rfl⟩
 replace H : ((some (([0, 1, 2, 3] : List Int) : List Int)).bind fun y170 => (conf_Usual.l0 k y170 (y170.length : Int) 0 ([] : List (S46)) 60000 100 32 8 10000 100 500 1024 1024 0 y166)) = some (r1, r2, r3, r4, r5, r6, r7, r8, r9, r10, r11, r12, r13) := by first | (rw [hy166]; with_reducible exact H) | (have H2_ := (Option.bind_some _ _).symm.trans H; rw [hy166]; with_reducible exact H2_) | (have H2_ := (Option.bind_some _ _).symm.trans H; with_reducible exact H2_) | with_reducible exact H | (rw [hy166]; exact H) | exact H
 have Ny166 := Aside0.mk hy166
 clear hy166
 obtain ⟨y170, hy170⟩ : ∃ y_ : List Int, y_ = (([0, 1, 2, 3] : List Int)) := ⟨_, rfl⟩
 replace H : (conf_Usual.l0 k y170 (y170.length : Int) 0 ([] : List (S46)) 60000 100 32 8 10000 100 500 1024 1024 0 y166) = some (r1, r2, r3, r4, r5, r6, r7, r8, r9, r10, r11, r12, r13) := by first | (rw [hy170]; with_reducible exact H) | (have H2_ := (Option.bind_some _ _).symm.trans H; rw [hy170]; with_reducible exact H2_) | (have H2_ := (Option.bind_some _ _).symm.trans H; with_reducible exact H2_) | with_reducible exact H | (rw [hy170]; exact H) | exact H
 have Ny170 := Aside0.mk hy170
 clear hy170
 have H' := Aside0.mk H
 clear H
 go_enter Try.func13, Try.ntmps13
 go_wp2_with (first | ((with_reducible refine gate_dst (N := 0) rfl ?_); refine box_event ?hg (N := 0) ?hd (cs := #[.slice none 0 0, .slice none 0 0, .int .i64 0, .int .i64 0, .int .i64 0, .int .i64 0, .int .i64 0, .int .i64 0, .int .i64 0, .int .i64 0, .int .i64 0, .int .u64 0, .slice none 0 0]) (t := 27) ?hr ?_; (case hd => rfl); (case hg => rfl); (case hr => first | (go_simp; done) | (go_simp; rfl)); intro gb165 hg w1 hbox hb; have BK165 := Aside0.mk (hbox); have GW165 := Aside0.mk ((by rw [hg]; exact (below_size (HB.out)) : w.heap.size ≤ gb165)); have GE165 := Aside0.mk ((by rw [hg]; exact (below_size (HB.out)) : w.heap.size ≤ gb165)); replace HB := Aside0.mk (below_step (HB.out) hb); clear hb hbox hg) | ((with_reducible refine gate_dst (N := 7) rfl ?_); refine Kd.R_lit k50 _ 50 ?hg (N := 7) ?hd (xs := ([(⟨0, (⟨#[98, 117, 115, 98, 97, 114]⟩ : ByteArray)⟩ : S50), (⟨1, (⟨#[98, 49]⟩ : ByteArray)⟩ : S50), (⟨2, (⟨#[49, 46, 48]⟩ : ByteArray)⟩ : S50)] : List (S50))) (inner := [.int .i64 0, .string (⟨#[98, 117, 115, 98, 97, 114]⟩ : ByteArray), .int .i64 1, .string (⟨#[98, 49]⟩ : ByteArray), .int .i64 2, .string (⟨#[49, 46, 48]⟩ : ByteArray)]) (ok := fun _ => True) (okp := fun _ => True) ?hr ?hp (fun _ hk => hk) trivial (Below.refl _ _) (Nat.le_refl _) (by simp) ?_; (case hd => rfl); (case hg => rfl); (case hr => first | (go_simp; done) | (go_simp; rfl)); (case hp => exact (Reps.c2 (show Kd.M k50 _ _ _ (⟨0, (⟨#[98, 117, 115, 98, 97, 114]⟩ : ByteArray)⟩ : S50) [.int .i64 0, .string (⟨#[98, 117, 115, 98, 97, 114]⟩ : ByteArray)] from (k50_mkM _ _ _ (⟨0, (⟨#[98, 117, 115, 98, 97, 114]⟩ : ByteArray)⟩ : S50) )) (Reps.c2 (show Kd.M k50 _ _ _ (⟨1, (⟨#[98, 49]⟩ : ByteArray)⟩ : S50) [.int .i64 1, .string (⟨#[98, 49]⟩ : ByteArray)] from (k50_mkM _ _ _ (⟨1, (⟨#[98, 49]⟩ : ByteArray)⟩ : S50) )) (Reps.c2 (show Kd.M k50 _ _ _ (⟨2, (⟨#[49, 46, 48]⟩ : ByteArray)⟩ : S50) [.int .i64 2, .string (⟨#[49, 46, 48]⟩ : ByteArray)] from (k50_mkM _ _ _ (⟨2, (⟨#[49, 46, 48]⟩ : ByteArray)⟩ : S50) )) (Reps.none _ _))))); intro v167 w2 ho3 hb hg_ hnew_; clear hg_ hnew_; (first | rw [← Ny166.out] at ho3 | (simp only [Int.reduceToNat] at ho3; rw [← Ny166.out] at ho3)); have HO168 := Aside0.mk (Kd.R_lower ho3 (below_size (HB.out))); replace BK165 := Aside0.mk (blk_below BK165.out hb); replace HB := Aside0.mk (below_step (HB.out) hb); clear hb ho3; obtain ⟨Ao4, co4, eo4⟩ := Kd.R_slice HO168.out; subst eo4) | ((with_reducible refine gate_dst (N := 1) rfl ?_); refine box_event ?hg (N := 1) ?hd (cs := #[.slice none 0 0, .slice none 0 0, .int .i64 0, .int .i64 0, .int .i64 0, .int .i64 0, .int .i64 0, .int .i64 0, .int .i64 0, .int .i64 0, .int .i64 0, .int .u64 0, .slice none 0 0]) (t := 27) ?hr ?_; (case hd => rfl); (case hg => rfl); (case hr => first | (go_simp; done) | (go_simp; rfl)); intro gb169 hg w5 hbox hb; replace HO168 := Aside0.mk (Kd.R_below (HO168.out) hb); have BK169 := Aside0.mk (hbox); have GW169 := Aside0.mk ((by rw [hg]; exact (below_size (HB.out)) : w.heap.size ≤ gb169)); have GE169 := Aside0.mk ((by rw [hg]; exact (below_size (HB.out)) : w.heap.size ≤ gb169)); replace HB := Aside0.mk (below_step (HB.out) hb); have NB165_169 := Aside0.mk ((by rw [hg]; exact Nat.ne_of_lt (blk_lt (g := gb165) (o := .cells #[.slice none 0 0, .slice none 0 0, .int .i64 0, .int .i64 0, .int .i64 0, .int .i64 0, .int .i64 0, .int .i64 0, .int .i64 0, .int .i64 0, .int .i64 0, .int .u64 0, .slice none 0 0] 27 (0, 0)) (BK165.out)) : gb165 ≠ gb169)); have NB169_165 := Aside0.mk ((by rw [hg]; exact Nat.ne_of_gt (blk_lt (g := gb165) (o := .cells #[.slice none 0 0, .slice none 0 0, .int .i64 0, .int .i64 0, .int .i64 0, .int .i64 0, .int .i64 0, .int .i64 0, .int .i64 0, .int .i64 0, .int .i64 0, .int .u64 0, .slice none 0 0] 27 (0, 0)) (BK165.out)) : gb169 ≠ gb165)); replace BK165 := Aside0.mk (blk_below BK165.out hb); clear hb hbox hg; have hnb6 := NB169_165.out; have hnc6 := NB165_169.out; obtain ⟨hcz7_0, hcz7_1, hcz7_2, hcz7_3, hcz7_4, hcz7_5, hcz7_6, hcz7_7, hcz7_8, hcz7_9, hcz7_10, hcz7_11, hcz7_12⟩ := blkc13 BK169.out; obtain ⟨hfz7_0, hfz7_1, hfz7_2, hfz7_3, hfz7_4, hfz7_5, hfz7_6, hfz7_7, hfz7_8, hfz7_9, hfz7_10, hfz7_11, hfz7_12⟩ := blkf13 BK169.out) | ((with_reducible refine gate_dst (N := 9) rfl ?_); refine Kd.R_lit (Kd.int .i64) _ 3 ?hg (N := 9) ?hd (xs := ([0, 1, 2, 3] : List Int)) (inner := [.int .i64 0, .int .i64 1, .int .i64 2, .int .i64 3]) (ok := fun _ => True) (okp := fun _ => True) ?hr ?hp (fun _ hk => hk) trivial (Below.refl _ _) (Nat.le_refl _) (by simp) ?_; (case hd => rfl); (case hg => rfl); (case hr => first | (go_simp; done) | (go_simp; rfl)); (case hp => exact (Reps.one (show Kd.M (Kd.int .i64) _ _ _ 0 [.int .i64 0] from rfl) (Reps.one (show Kd.M (Kd.int .i64) _ _ _ 1 [.int .i64 1] from rfl) (Reps.one (show Kd.M (Kd.int .i64) _ _ _ 2 [.int .i64 2] from rfl) (Reps.one (show Kd.M (Kd.int .i64) _ _ _ 3 [.int .i64 3] from rfl) (Reps.none _ _)))))); intro v171 w8 ho9 hb hg_ hnew_; clear hg_ hnew_; (first | rw [← Ny170.out] at ho9 | (simp only [Int.reduceToNat] at ho9; rw [← Ny170.out] at ho9)); replace HO168 := Aside0.mk (Kd.R_below ((Kd.R_mono (Kd.rfR (Kd.rfR (Kd.rfR (Kd.rfR (Kd.rfR (Kd.rfR (Kd.rfR (Kd.rfR (Kd.rfR (Kd.rfR (Kd.rfR (Kd.rfR (Kd.rfR (Kd.R_types HO168.out BK169.out (by decide))))))))))))))) (fun _ h_ => h_.1))) hb); have HO172 := Aside0.mk (Kd.R_lower ho9 (below_size (by repeat (first | (with_reducible first | exact HB.out | apply below_alloc | apply pw_below_drewN | apply below_drew1 | refine below_set ?_ GE165.out | refine below_set ?_ GE169.out) | exact HB.out)))); replace BK165 := Aside0.mk (blk_below (g := gb165) (o := .cells #[.slice none 0 0, .slice none 0 0, .int .i64 0, .int .i64 0, .int .i64 0, .int .i64 0, .int .i64 0, .int .i64 0, .int .i64 0, .int .i64 0, .int .i64 0, .int .u64 0, .slice none 0 0] 27 (0, 0)) (by (with_reducible repeat (first | refine blk_drewN ?_ _ | refine blk_drew ?_ | refine blk_alloc ?_ _)); refine blk_far ?_ NB165_169.out _; (with_reducible repeat (first | refine blk_drewN ?_ _ | refine blk_drew ?_ | refine blk_alloc ?_ _)); refine blk_far ?_ NB165_169.out _; (with_reducible repeat (first | refine blk_drewN ?_ _ | refine blk_drew ?_ | refine blk_alloc ?_ _)); refine blk_far ?_ NB165_169.out _; (with_reducible repeat (first | refine blk_drewN ?_ _ | refine blk_drew ?_ | refine blk_alloc ?_ _)); refine blk_far ?_ NB165_169.out _; (with_reducible repeat (first | refine blk_drewN ?_ _ | refine blk_drew ?_ | refine blk_alloc ?_ _)); refine blk_far ?_ NB165_169.out _; (with_reducible repeat (first | refine blk_drewN ?_ _ | refine blk_drew ?_ | refine blk_alloc ?_ _)); refine blk_far ?_ NB165_169.out _; (with_reducible repeat (first | refine blk_drewN ?_ _ | refine blk_drew ?_ | refine blk_alloc ?_ _)); refine blk_far ?_ NB165_169.out _; (with_reducible repeat (first | refine blk_drewN ?_ _ | refine blk_drew ?_ | refine blk_alloc ?_ _)); refine blk_far ?_ NB165_169.out _; (with_reducible repeat (first | refine blk_drewN ?_ _ | refine blk_drew ?_ | refine blk_alloc ?_ _)); refine blk_far ?_ NB165_169.out _; (with_reducible repeat (first | refine blk_drewN ?_ _ | refine blk_drew ?_ | refine blk_alloc ?_ _)); refine blk_far ?_ NB165_169.out _; (with_reducible repeat (first | refine blk_drewN ?_ _ | refine blk_drew ?_ | refine blk_alloc ?_ _)); refine blk_far ?_ NB165_169.out _; (with_reducible repeat (first | refine blk_drewN ?_ _ | refine blk_drew ?_ | refine blk_alloc ?_ _)); refine blk_far ?_ NB165_169.out _; (with_reducible repeat (first | refine blk_drewN ?_ _ | refine blk_drew ?_ | refine blk_alloc ?_ _)); refine blk_far ?_ NB165_169.out _; (with_reducible repeat (first | refine blk_drewN ?_ _ | refine blk_drew ?_ | refine blk_alloc ?_ _)); exact BK165.out) hb); replace BK169 := Aside0.mk (blk_below (g := gb169) (o := .cells #[.slice none 0 0, .slice none 0 0, .int .i64 60000, .int .i64 100, .int .i64 32, .int .i64 8, .int .i64 10000, .int .i64 100, .int .i64 500, .int .i64 1024, .int .i64 1024, .int .u64 0, .slice Ao4 y166.length co4] 27 (0, 0)) (by (with_reducible repeat (first | refine blk_drewN ?_ _ | refine blk_drew ?_ | refine blk_alloc ?_ _)); refine blk_put (cs := #[.slice none 0 0, .slice none 0 0, .int .i64 60000, .int .i64 100, .int .i64 32, .int .i64 8, .int .i64 10000, .int .i64 100, .int .i64 500, .int .i64 1024, .int .i64 1024, .int .u64 0, .slice none 0 0]) ?_ 12 _ rfl; (with_reducible repeat (first | refine blk_drewN ?_ _ | refine blk_drew ?_ | refine blk_alloc ?_ _)); refine blk_put (cs := #[.slice none 0 0, .slice none 0 0, .int .i64 60000, .int .i64 100, .int .i64 32, .int .i64 8, .int .i64 10000, .int .i64 100, .int .i64 500, .int .i64 1024, .int .i64 1024, .int .u64 0, .slice none 0 0]) ?_ 11 _ rfl; (with_reducible repeat (first | refine blk_drewN ?_ _ | refine blk_drew ?_ | refine blk_alloc ?_ _)); refine blk_put (cs := #[.slice none 0 0, .slice none 0 0, .int .i64 60000, .int .i64 100, .int .i64 32, .int .i64 8, .int .i64 10000, .int .i64 100, .int .i64 500, .int .i64 1024, .int .i64 0, .int .u64 0, .slice none 0 0]) ?_ 10 _ rfl; (with_reducible repeat (first | refine blk_drewN ?_ _ | refine blk_drew ?_ | refine blk_alloc ?_ _)); refine blk_put (cs := #[.slice none 0 0, .slice none 0 0, .int .i64 60000, .int .i64 100, .int .i64 32, .int .i64 8, .int .i64 10000, .int .i64 100, .int .i64 500, .int .i64 0, .int .i64 0, .int .u64 0, .slice none 0 0]) ?_ 9 _ rfl; (with_reducible repeat (first | refine blk_drewN ?_ _ | refine blk_drew ?_ | refine blk_alloc ?_ _)); refine blk_put (cs := #[.slice none 0 0, .slice none 0 0, .int .i64 60000, .int .i64 100, .int .i64 32, .int .i64 8, .int .i64 10000, .int .i64 100, .int .i64 0, .int .i64 0, .int .i64 0, .int .u64 0, .slice none 0 0]) ?_ 8 _ rfl; (with_reducible repeat (first | refine blk_drewN ?_ _ | refine blk_drew ?_ | refine blk_alloc ?_ _)); refine blk_put (cs := #[.slice none 0 0, .slice none 0 0, .int .i64 60000, .int .i64 100, .int .i64 32, .int .i64 8, .int .i64 10000, .int .i64 0, .int .i64 0, .int .i64 0, .int .i64 0, .int .u64 0, .slice none 0 0]) ?_ 7 _ rfl; (with_reducible repeat (first | refine blk_drewN ?_ _ | refine blk_drew ?_ | refine blk_alloc ?_ _)); refine blk_put (cs := #[.slice none 0 0, .slice none 0 0, .int .i64 60000, .int .i64 100, .int .i64 32, .int .i64 8, .int .i64 0, .int .i64 0, .int .i64 0, .int .i64 0, .int .i64 0, .int .u64 0, .slice none 0 0]) ?_ 6 _ rfl; (with_reducible repeat (first | refine blk_drewN ?_ _ | refine blk_drew ?_ | refine blk_alloc ?_ _)); refine blk_put (cs := #[.slice none 0 0, .slice none 0 0, .int .i64 60000, .int .i64 100, .int .i64 32, .int .i64 0, .int .i64 0, .int .i64 0, .int .i64 0, .int .i64 0, .int .i64 0, .int .u64 0, .slice none 0 0]) ?_ 5 _ rfl; (with_reducible repeat (first | refine blk_drewN ?_ _ | refine blk_drew ?_ | refine blk_alloc ?_ _)); refine blk_put (cs := #[.slice none 0 0, .slice none 0 0, .int .i64 60000, .int .i64 100, .int .i64 0, .int .i64 0, .int .i64 0, .int .i64 0, .int .i64 0, .int .i64 0, .int .i64 0, .int .u64 0, .slice none 0 0]) ?_ 4 _ rfl; (with_reducible repeat (first | refine blk_drewN ?_ _ | refine blk_drew ?_ | refine blk_alloc ?_ _)); refine blk_put (cs := #[.slice none 0 0, .slice none 0 0, .int .i64 60000, .int .i64 0, .int .i64 0, .int .i64 0, .int .i64 0, .int .i64 0, .int .i64 0, .int .i64 0, .int .i64 0, .int .u64 0, .slice none 0 0]) ?_ 3 _ rfl; (with_reducible repeat (first | refine blk_drewN ?_ _ | refine blk_drew ?_ | refine blk_alloc ?_ _)); refine blk_put (cs := #[.slice none 0 0, .slice none 0 0, .int .i64 0, .int .i64 0, .int .i64 0, .int .i64 0, .int .i64 0, .int .i64 0, .int .i64 0, .int .i64 0, .int .i64 0, .int .u64 0, .slice none 0 0]) ?_ 2 _ rfl; (with_reducible repeat (first | refine blk_drewN ?_ _ | refine blk_drew ?_ | refine blk_alloc ?_ _)); refine blk_put (cs := #[.slice none 0 0, .slice none 0 0, .int .i64 0, .int .i64 0, .int .i64 0, .int .i64 0, .int .i64 0, .int .i64 0, .int .i64 0, .int .i64 0, .int .i64 0, .int .u64 0, .slice none 0 0]) ?_ 1 _ rfl; (with_reducible repeat (first | refine blk_drewN ?_ _ | refine blk_drew ?_ | refine blk_alloc ?_ _)); refine blk_put (cs := #[.slice none 0 0, .slice none 0 0, .int .i64 0, .int .i64 0, .int .i64 0, .int .i64 0, .int .i64 0, .int .i64 0, .int .i64 0, .int .i64 0, .int .i64 0, .int .u64 0, .slice none 0 0]) ?_ 0 _ rfl; (with_reducible repeat (first | refine blk_drewN ?_ _ | refine blk_drew ?_ | refine blk_alloc ?_ _)); exact BK169.out) hb); replace HB := Aside0.mk (below_step (by repeat (first | (with_reducible first | exact HB.out | apply below_alloc | apply pw_below_drewN | apply below_drew1 | refine below_set ?_ GE165.out | refine below_set ?_ GE169.out) | exact HB.out)) hb); clear hb ho9; obtain ⟨Ao10, co10, eo10⟩ := Kd.R_slice HO172.out; subst eo10))
 go_loopg [11] k (fun kq v11 w' => ∃ (x11_1 : Int) (x170000_1 : List (S46)) (u170000 : Value), v11 = .int .i64 x11_1 ∧ Aside0 (conf_Usual.l0 kq y170 (y170.length : Int) x11_1 x170000_1 60000 100 32 8 10000 100 500 1024 1024 0 y166 = some (r1, r2, r3, r4, r5, r6, r7, r8, r9, r10, r11, r12, r13)) ∧ Aside0 (kq ≤ k) ∧ Aside0 (Kd.R (Kd.int .i64) 3 w' w.heap.size (fun _ => True) (.slice Ao10 y170.length co10) y170) ∧ Aside0 (Kd.R k46 46 w' w.heap.size (fun _ => True) u170000 x170000_1) ∧ Aside0 (Kd.R k50 50 w' w.heap.size (fun _ => True) (.slice Ao4 y166.length co4) y166) ∧ Aside0 (w'.heap[gb165]? = some (.cells #[(.slice none 0 0), (.slice none 0 0), .int .i64 0, .int .i64 0, .int .i64 0, .int .i64 0, .int .i64 0, .int .i64 0, .int .i64 0, .int .i64 0, .int .i64 0, .int .u64 0, (.slice none 0 0)] 27 (0, 0))) ∧ Aside0 (w'.heap[gb169]? = some (.cells #[u170000, (.slice none 0 0), .int .i64 60000, .int .i64 100, .int .i64 32, .int .i64 8, .int .i64 10000, .int .i64 100, .int .i64 500, .int .i64 1024, .int .i64 1024, .int .u64 0, (.slice Ao4 y166.length co4)] 27 (0, 0))) ∧ Aside0 (Below w.heap.size w w'))
 case atStart => exact ⟨(0), (([] : List (S46))), (.slice none 0 0), (by first | rfl | (simp; done) | (simp [*]; done)), H', ⟨Nat.le_refl _⟩, ⟨HO172.out⟩, ⟨by first | exact Kd.R_nil _ _ _ _ _ | exact Kd.N_nil _ _ _ _ _ | exact Kd.V_nil _ _ _ _ _ | exact Kd.Q_nil _ _ _ _ _ | exact Kd.S_nil _ _ _ _ _⟩, ⟨HO168.out⟩, ⟨BK165.out⟩, ⟨BK169.out⟩, ⟨HB.out⟩⟩
 case round =>
  clear H'
  (try clear hcz7_0); (try clear hcz7_1); (try clear hcz7_10); (try clear hcz7_11); (try clear hcz7_12); (try clear hcz7_2); (try clear hcz7_3); (try clear hcz7_4); (try clear hcz7_5); (try clear hcz7_6); (try clear hcz7_7); (try clear hcz7_8); (try clear hcz7_9); (try clear hfz7_0); (try clear hfz7_1); (try clear hfz7_10); (try clear hfz7_11); (try clear hfz7_12); (try clear hfz7_2); (try clear hfz7_3); (try clear hfz7_4); (try clear hfz7_5); (try clear hfz7_6); (try clear hfz7_7); (try clear hfz7_8); (try clear hfz7_9)
  obtain ⟨x11_1, x170000_1, u170000, rfl, HA, HK1, HO_9, HO_170000, HO_170012, BK165, BK169, HB⟩ := hrel
  cases gk with
  | zero => exact absurd HA.out (by simp [conf_Usual.l0])
  | succ k1 =>
   have H := HA.out
   clear HA
   simp only [conf_Usual.l0] at H
   by_cases c11 : x11_1 < (y170.length : Int)
   ·
    rw [if_pos c11] at H
    have c11b0 : decide (x11_1 < (y170.length : Int)) = true := decide_eq_true c11
    clear c11
    by_cases c12 : 0 ≤ x11_1
    ·
     rw [if_pos c12] at H
     have c12b0 : decide (0 ≤ x11_1) = true := decide_eq_true c12
     clear c12
     by_cases c13 : x11_1 < (y170.length : Int)
     ·
      rw [if_pos c13] at H
      have c13b0 : decide (x11_1 < (y170.length : Int)) = true := decide_eq_true c13
      clear c13
      by_cases c14 : x170000_1.length < 5864062014805
      ·
       rw [if_pos c14] at H
       have LMc14 := Aside0.mk c14
       clear c14
       obtain ⟨y174, hy174⟩ : ∃ y_ : List (S46), y_ = (x170000_1 ++ [(⟨rd y170 x11_1, 0, 1000⟩ : S46)]) := ⟨_, rfl⟩
       replace H : (conf_Usual.l0 k1 y170 (y170.length : Int) (wrap64 (x11_1 + 1)) y174 60000 100 32 8 10000 100 500 1024 1024 0 y166) = some (r1, r2, r3, r4, r5, r6, r7, r8, r9, r10, r11, r12, r13) := by first | (rw [hy174]; with_reducible exact H) | (have H2_ := (Option.bind_some _ _).symm.trans H; rw [hy174]; with_reducible exact H2_) | (have H2_ := (Option.bind_some _ _).symm.trans H; with_reducible exact H2_) | with_reducible exact H | (rw [hy174]; exact H) | exact H
       have Ny174 := Aside0.mk hy174
       clear hy174
       have H' := Aside0.mk H
       clear H
       have p173 : 0 ≤ (x11_1 : Int) := of_decide_eq_true (by first | (with_reducible assumption) | assumption)
       have q173 : x11_1 < (y170.length : Int) := of_decide_eq_true (by first | (with_reducible assumption) | assumption)
       obtain ⟨ad173, e173, hx173_0⟩ := Kd.at_int (Kd.R_reads' HO_9.out).2.2 x11_1 p173 q173
       cases e173
       replace p173 := eq_true p173
       replace q173 := eq_true q173
       have hnb15 := NB169_165.out
       have hnc15 := NB165_169.out
       obtain ⟨hcz16_0, hcz16_1, hcz16_2, hcz16_3, hcz16_4, hcz16_5, hcz16_6, hcz16_7, hcz16_8, hcz16_9, hcz16_10, hcz16_11, hcz16_12⟩ := blkc13 BK169.out
       obtain ⟨hfz16_0, hfz16_1, hfz16_2, hfz16_3, hfz16_4, hfz16_5, hfz16_6, hfz16_7, hfz16_8, hfz16_9, hfz16_10, hfz16_11, hfz16_12⟩ := blkf13 BK169.out
       go_wp2_with (first | ((with_reducible refine gate_builtin (b := .append) (xs := #[.tmp 16, .tmp 19]) rfl ?_); at_builtin; refine Kd.R_append k46 (w0 := w) w.heap.size rfl (.tmp 16) (.tmp 19) 22 46 (.agg #[(.int .i64 0), (.int .i64 0), (.int .i64 0)]) 24 rfl Try.underlying22 info46 rfl (by decide) (by omega) u170000 x170000_1 (⟨rd y170 x11_1, 0, 1000⟩ : S46) [.int .i64 (rd y170 x11_1), .int .i64 0, .int .i64 1000] (fun _ => True) (fun _ => False) rfl rfl ?aP (fun _ hk => hk.elim) ?aF ?aO ?aB ?aS ?aL ?_; (case aP => exact k46_mkM _ _ _ (⟨rd y170 x11_1, 0, 1000⟩ : S46)); (case aB => exact (HB.out)); (case aF => exact (fun _ _ => trivial)); (case aO => exact (HO_170000.out)); (case aS => exact (below_size (HB.out))); (case aL => have := LMc14.out; omega); intro v175 w17 ho hb hg hat; rw [← Ny174.out] at ho; replace HO_9 := Aside0.mk (Kd.R_over' (HO_9.out) (Kd.R_typed (HO_170000.out)) (by decide) hg); replace HO_170012 := Aside0.mk (Kd.R_over' (HO_170012.out) (Kd.R_typed (HO_170000.out)) (by decide) hg); replace BK165 := Aside0.mk (blk_grown (g := gb165) (o := .cells #[.slice none 0 0, .slice none 0 0, .int .i64 0, .int .i64 0, .int .i64 0, .int .i64 0, .int .i64 0, .int .i64 0, .int .i64 0, .int .i64 0, .int .i64 0, .int .u64 0, .slice none 0 0] 27 (0, 0)) (BK165.out) hg (Kd.R_ne HO_170000.out BK165.out (by decide))); replace BK169 := Aside0.mk (blk_grown (g := gb169) (o := .cells #[u170000, .slice none 0 0, .int .i64 60000, .int .i64 100, .int .i64 32, .int .i64 8, .int .i64 10000, .int .i64 100, .int .i64 500, .int .i64 1024, .int .i64 1024, .int .u64 0, .slice Ao4 y166.length co4] 27 (0, 0)) (BK169.out) hg (Kd.R_ne HO_170000.out BK169.out (by decide))); replace HB := Aside0.mk (hb); have HO176 := Aside0.mk (ho); clear HO_170000; clear ho hb hg hat; obtain ⟨Ao18, co18, eo18⟩ := Kd.R_slice HO176.out; subst eo18; obtain ⟨hcz19_0, hcz19_1, hcz19_2, hcz19_3, hcz19_4, hcz19_5, hcz19_6, hcz19_7, hcz19_8, hcz19_9, hcz19_10, hcz19_11, hcz19_12⟩ := blkc13 BK169.out; obtain ⟨hfz19_0, hfz19_1, hfz19_2, hfz19_3, hfz19_4, hfz19_5, hfz19_6, hfz19_7, hfz19_8, hfz19_9, hfz19_10, hfz19_11, hfz19_12⟩ := blkf13 BK169.out))
       go_roundg k1
       case measure => have := HK1.out; omega
       case rel => exact ⟨(wrap64 (x11_1 + 1)), (y174), (.slice Ao18 y174.length co18), (by first | rfl | (simp; done) | (simp [*]; done)), H', ⟨by have := HK1.out; omega⟩, ⟨Kd.R_mono (Kd.rfR (Kd.R_types HO_9.out BK169.out (by decide))) (fun _ hk => trivial)⟩, ⟨Kd.R_mono (Kd.rfR (Kd.R_types HO176.out BK169.out (by decide))) (fun _ hk => trivial)⟩, ⟨Kd.R_mono (Kd.rfR (Kd.R_types HO_170012.out BK169.out (by decide))) (fun _ hk => trivial)⟩, ⟨by (with_reducible repeat (first | refine blk_drewN ?_ _ | refine blk_drew ?_ | refine blk_alloc ?_ _)); refine blk_far ?_ NB165_169.out _; (with_reducible repeat (first | refine blk_drewN ?_ _ | refine blk_drew ?_ | refine blk_alloc ?_ _)); exact BK165.out⟩, ⟨by (with_reducible repeat (first | refine blk_drewN ?_ _ | refine blk_drew ?_ | refine blk_alloc ?_ _)); refine blk_put (cs := #[u170000, .slice none 0 0, .int .i64 60000, .int .i64 100, .int .i64 32, .int .i64 8, .int .i64 10000, .int .i64 100, .int .i64 500, .int .i64 1024, .int .i64 1024, .int .u64 0, .slice Ao4 y166.length co4]) ?_ 0 _ rfl; (with_reducible repeat (first | refine blk_drewN ?_ _ | refine blk_drew ?_ | refine blk_alloc ?_ _)); exact BK169.out⟩, ⟨by repeat (first | (with_reducible first | exact HB.out | apply below_alloc | apply pw_below_drewN | apply below_drew1 | refine below_set ?_ GE165.out | refine below_set ?_ GE169.out) | exact HB.out)⟩⟩
      ·
       rw [if_neg c14] at H
       exact absurd H (by simp)
     ·
      rw [if_neg c13] at H
      exact absurd H (by simp)
    ·
     rw [if_neg c12] at H
     exact absurd H (by simp)
   ·
    rw [if_neg c11] at H
    have c11b0 : decide (x11_1 < (y170.length : Int)) = false := decide_eq_false c11
    clear c11
    simp only [Option.some.injEq, Prod.mk.injEq] at H
    obtain ⟨rfl, rfl, rfl, rfl, rfl, rfl, rfl, rfl, rfl, rfl, rfl, rfl, rfl⟩ := H
    have hnb20 := NB169_165.out
    have hnc20 := NB165_169.out
    obtain ⟨hcz21_0, hcz21_1, hcz21_2, hcz21_3, hcz21_4, hcz21_5, hcz21_6, hcz21_7, hcz21_8, hcz21_9, hcz21_10, hcz21_11, hcz21_12⟩ := blkc13 BK169.out
    obtain ⟨hfz21_0, hfz21_1, hfz21_2, hfz21_3, hfz21_4, hfz21_5, hfz21_6, hfz21_7, hfz21_8, hfz21_9, hfz21_10, hfz21_11, hfz21_12⟩ := blkf13 BK169.out
    obtain ⟨Ao22, co22, eo22⟩ := Kd.R_slice HO_170000.out
    subst eo22
    obtain ⟨hcz23_0, hcz23_1, hcz23_2, hcz23_3, hcz23_4, hcz23_5, hcz23_6, hcz23_7, hcz23_8, hcz23_9, hcz23_10, hcz23_11, hcz23_12⟩ := blkc13 BK165.out
    obtain ⟨hfz23_0, hfz23_1, hfz23_2, hfz23_3, hfz23_4, hfz23_5, hfz23_6, hfz23_7, hfz23_8, hfz23_9, hfz23_10, hfz23_11, hfz23_12⟩ := blkf13 BK165.out
    go_wp2
    refine bodyPost_ret (results_cell_row rfl _ _ gb165 27 #[.slice Ao22 x170000_1.length co22, .slice none 0 0, .int .i64 60000, .int .i64 100, .int .i64 32, .int .i64 8, .int .i64 10000, .int .i64 100, .int .i64 500, .int .i64 1024, .int .i64 1024, .int .u64 0, .slice Ao4 y166.length co4] (0, 0) _ rfl (by (with_reducible repeat (first | refine blk_drewN ?_ _ | refine blk_drew ?_ | refine blk_alloc ?_ _)); refine blk_put (cs := #[.slice Ao22 x170000_1.length co22, .slice none 0 0, .int .i64 60000, .int .i64 100, .int .i64 32, .int .i64 8, .int .i64 10000, .int .i64 100, .int .i64 500, .int .i64 1024, .int .i64 1024, .int .u64 0, .slice none 0 0]) ?_ 12 _ rfl; (with_reducible repeat (first | refine blk_drewN ?_ _ | refine blk_drew ?_ | refine blk_alloc ?_ _)); refine blk_put (cs := #[.slice Ao22 x170000_1.length co22, .slice none 0 0, .int .i64 60000, .int .i64 100, .int .i64 32, .int .i64 8, .int .i64 10000, .int .i64 100, .int .i64 500, .int .i64 1024, .int .i64 1024, .int .u64 0, .slice none 0 0]) ?_ 11 _ rfl; (with_reducible repeat (first | refine blk_drewN ?_ _ | refine blk_drew ?_ | refine blk_alloc ?_ _)); refine blk_put (cs := #[.slice Ao22 x170000_1.length co22, .slice none 0 0, .int .i64 60000, .int .i64 100, .int .i64 32, .int .i64 8, .int .i64 10000, .int .i64 100, .int .i64 500, .int .i64 1024, .int .i64 0, .int .u64 0, .slice none 0 0]) ?_ 10 _ rfl; (with_reducible repeat (first | refine blk_drewN ?_ _ | refine blk_drew ?_ | refine blk_alloc ?_ _)); refine blk_put (cs := #[.slice Ao22 x170000_1.length co22, .slice none 0 0, .int .i64 60000, .int .i64 100, .int .i64 32, .int .i64 8, .int .i64 10000, .int .i64 100, .int .i64 500, .int .i64 0, .int .i64 0, .int .u64 0, .slice none 0 0]) ?_ 9 _ rfl; (with_reducible repeat (first | refine blk_drewN ?_ _ | refine blk_drew ?_ | refine blk_alloc ?_ _)); refine blk_put (cs := #[.slice Ao22 x170000_1.length co22, .slice none 0 0, .int .i64 60000, .int .i64 100, .int .i64 32, .int .i64 8, .int .i64 10000, .int .i64 100, .int .i64 0, .int .i64 0, .int .i64 0, .int .u64 0, .slice none 0 0]) ?_ 8 _ rfl; (with_reducible repeat (first | refine blk_drewN ?_ _ | refine blk_drew ?_ | refine blk_alloc ?_ _)); refine blk_put (cs := #[.slice Ao22 x170000_1.length co22, .slice none 0 0, .int .i64 60000, .int .i64 100, .int .i64 32, .int .i64 8, .int .i64 10000, .int .i64 0, .int .i64 0, .int .i64 0, .int .i64 0, .int .u64 0, .slice none 0 0]) ?_ 7 _ rfl; (with_reducible repeat (first | refine blk_drewN ?_ _ | refine blk_drew ?_ | refine blk_alloc ?_ _)); refine blk_put (cs := #[.slice Ao22 x170000_1.length co22, .slice none 0 0, .int .i64 60000, .int .i64 100, .int .i64 32, .int .i64 8, .int .i64 0, .int .i64 0, .int .i64 0, .int .i64 0, .int .i64 0, .int .u64 0, .slice none 0 0]) ?_ 6 _ rfl; (with_reducible repeat (first | refine blk_drewN ?_ _ | refine blk_drew ?_ | refine blk_alloc ?_ _)); refine blk_put (cs := #[.slice Ao22 x170000_1.length co22, .slice none 0 0, .int .i64 60000, .int .i64 100, .int .i64 32, .int .i64 0, .int .i64 0, .int .i64 0, .int .i64 0, .int .i64 0, .int .i64 0, .int .u64 0, .slice none 0 0]) ?_ 5 _ rfl; (with_reducible repeat (first | refine blk_drewN ?_ _ | refine blk_drew ?_ | refine blk_alloc ?_ _)); refine blk_put (cs := #[.slice Ao22 x170000_1.length co22, .slice none 0 0, .int .i64 60000, .int .i64 100, .int .i64 0, .int .i64 0, .int .i64 0, .int .i64 0, .int .i64 0, .int .i64 0, .int .i64 0, .int .u64 0, .slice none 0 0]) ?_ 4 _ rfl; (with_reducible repeat (first | refine blk_drewN ?_ _ | refine blk_drew ?_ | refine blk_alloc ?_ _)); refine blk_put (cs := #[.slice Ao22 x170000_1.length co22, .slice none 0 0, .int .i64 60000, .int .i64 0, .int .i64 0, .int .i64 0, .int .i64 0, .int .i64 0, .int .i64 0, .int .i64 0, .int .i64 0, .int .u64 0, .slice none 0 0]) ?_ 3 _ rfl; (with_reducible repeat (first | refine blk_drewN ?_ _ | refine blk_drew ?_ | refine blk_alloc ?_ _)); refine blk_put (cs := #[.slice Ao22 x170000_1.length co22, .slice none 0 0, .int .i64 0, .int .i64 0, .int .i64 0, .int .i64 0, .int .i64 0, .int .i64 0, .int .i64 0, .int .i64 0, .int .i64 0, .int .u64 0, .slice none 0 0]) ?_ 2 _ rfl; (with_reducible repeat (first | refine blk_drewN ?_ _ | refine blk_drew ?_ | refine blk_alloc ?_ _)); refine blk_put (cs := #[.slice Ao22 x170000_1.length co22, .slice none 0 0, .int .i64 0, .int .i64 0, .int .i64 0, .int .i64 0, .int .i64 0, .int .i64 0, .int .i64 0, .int .i64 0, .int .i64 0, .int .u64 0, .slice none 0 0]) ?_ 1 _ rfl; (with_reducible repeat (first | refine blk_drewN ?_ _ | refine blk_drew ?_ | refine blk_alloc ?_ _)); refine blk_put (cs := #[.slice none 0 0, .slice none 0 0, .int .i64 0, .int .i64 0, .int .i64 0, .int .i64 0, .int .i64 0, .int .i64 0, .int .i64 0, .int .i64 0, .int .i64 0, .int .u64 0, .slice none 0 0]) ?_ 0 _ rfl; (with_reducible repeat (first | refine blk_drewN ?_ _ | refine blk_drew ?_ | refine blk_alloc ?_ _)); exact BK165.out) Try.underlying27 rfl (by kernel_rfl)) rfl ?_
    exact ⟨_, _, _, by first | rfl | (simp [errW_none, errW_some] <;> rfl) | (simp [*, errW_none, errW_some] <;> rfl), Kd.R_mono (Kd.rfR (Kd.rfR (Kd.rfR (Kd.rfR (Kd.rfR (Kd.rfR (Kd.rfR (Kd.rfR (Kd.rfR (Kd.rfR (Kd.rfR (Kd.rfR (Kd.rfR (Kd.R_types HO_170000.out BK165.out (by decide))))))))))))))) (fun _ hk => trivial), by first | exact Kd.R_nil _ _ _ _ _ | exact Kd.N_nil _ _ _ _ _ | exact Kd.V_nil _ _ _ _ _ | exact Kd.Q_nil _ _ _ _ _ | exact Kd.S_nil _ _ _ _ _, Kd.R_mono (Kd.rfR (Kd.rfR (Kd.rfR (Kd.rfR (Kd.rfR (Kd.rfR (Kd.rfR (Kd.rfR (Kd.rfR (Kd.rfR (Kd.rfR (Kd.rfR (Kd.rfR (Kd.R_types HO_170012.out BK165.out (by decide))))))))))))))) (fun _ hk => trivial), by repeat (first | (with_reducible first | exact HB.out | apply below_alloc | apply pw_below_drewN | apply below_drew1 | refine below_set ?_ GE165.out | refine below_set ?_ GE169.out) | exact HB.out)⟩
end Go.Proofs.Ytjlbgopgeepiaaa.PConf
namespace Go.Proofs.Ytjlbgopgeepiaaa.PConf
open Go.RowKit Go.Proofs.YtjlbgopgeepiaaaW.PrintWords Go.Proofs.YtjlbgopgeepiaaaW.PrintLast Go.Proofs.YtjlbgopgeepiaaaW.PrintMore
attribute [local go_sem] max2_int min2_int max_two min_two max_three min_three max_four min_four plus_setCell_drewN plus_cell_same   -- for this text's walks alone
set_option linter.unusedVariables false
set_option linter.unusedSimpArgs false
def busbarlaw15_awake.f (k : Nat)  : Option (Bool) := (conf_Usual.f k).bind fun bt177 => ((conf_Check.f k bt177.1 bt177.2.1 bt177.2.2.1 bt177.2.2.2.1 bt177.2.2.2.2.1 bt177.2.2.2.2.2.1 bt177.2.2.2.2.2.2.1 bt177.2.2.2.2.2.2.2.1 bt177.2.2.2.2.2.2.2.2.1 bt177.2.2.2.2.2.2.2.2.2.1 bt177.2.2.2.2.2.2.2.2.2.2.1 bt177.2.2.2.2.2.2.2.2.2.2.2.1 bt177.2.2.2.2.2.2.2.2.2.2.2.2).bind fun t197 => (if t197 = 0 then (if bt177.2.2.1 = 60000 then (if (bt177.1.length : Int) = 4 then ((conf_Check.f k ([] : List (S46)) ([] : List (S48)) 0 0 0 0 0 0 0 0 0 0 ([] : List (S50))).bind fun t198 => (some (t198 == 1))) else (some false)) else (some false)) else (some false)))
theorem busbarlaw15_awake.mono : ∀ k, LeO (busbarlaw15_awake.f k ) (busbarlaw15_awake.f (k + 1) ) := by
 intro  k
 unfold busbarlaw15_awake.f
 repeat' first
   | (with_reducible exact conf_Check.mono _ _ _ _ _ _ _ _ _ _ _ _ _ _)
   | (with_reducible exact conf_Usual.mono _)
   | (with_reducible exact LeO.refl _)
   | (with_reducible exact LeO.none _)
   | (with_reducible refine LeO.ite ?_ ?_)
   | (with_reducible refine LeO.bind ?_ (fun _ => ?_))
   | exact conf_Check.mono _ _ _ _ _ _ _ _ _ _ _ _ _ _
   | exact conf_Usual.mono _
   | exact LeO.none _
   | refine LeO.ite ?_ ?_
   | refine LeO.bind ?_ (fun _ => ?_)
set_option maxHeartbeats 8000000 in
set_option maxRecDepth 100000 in
theorem busbarlaw15_awake.calls (k : Nat)  (r : Bool) (w : World) (h : busbarlaw15_awake.f k  = some r) :
  Calls Try.prog 7 #[] w fun e w' => e = .returned (.bool r) ∧ Below w.heap.size w w' := by
 have hu27 := Try.underlying27
 have HB := Aside0.mk (Below.refl w.heap.size w)
 have H : ((conf_Usual.f k).bind fun bt177 => ((conf_Check.f k bt177.1 bt177.2.1 bt177.2.2.1 bt177.2.2.2.1 bt177.2.2.2.2.1 bt177.2.2.2.2.2.1 bt177.2.2.2.2.2.2.1 bt177.2.2.2.2.2.2.2.1 bt177.2.2.2.2.2.2.2.2.1 bt177.2.2.2.2.2.2.2.2.2.1 bt177.2.2.2.2.2.2.2.2.2.2.1 bt177.2.2.2.2.2.2.2.2.2.2.2.1 bt177.2.2.2.2.2.2.2.2.2.2.2.2).bind fun t197 => (if t197 = 0 then (if bt177.2.2.1 = 60000 then (if (bt177.1.length : Int) = 4 then ((conf_Check.f k ([] : List (S46)) ([] : List (S48)) 0 0 0 0 0 0 0 0 0 0 ([] : List (S50))).bind fun t198 => (some (t198 == 1))) else (some false)) else (some false)) else (some false)))) = some r := h
 clear h
 replace H := Option.bind_eq_some_iff.mp H
 obtain ⟨⟨t177, t180, t183, t184, t185, t186, t187, t188, t189, t190, t191, t192, t193⟩, A10, H⟩ := H
 replace H : ((conf_Check.f k t177 t180 t183 t184 t185 t186 t187 t188 t189 t190 t191 t192 t193).bind fun t197 => (if t197 = 0 then (if t183 = 60000 then (if (t177.length : Int) = 4 then ((conf_Check.f k ([] : List (S46)) ([] : List (S48)) 0 0 0 0 0 0 0 0 0 0 ([] : List (S50))).bind fun t198 => (some (t198 == 1))) else (some false)) else (some false)) else (some false))) = some r := H
 have A1 := Aside0.mk A10
 clear A10
 replace H := Option.bind_eq_some_iff.mp H
 obtain ⟨t197, A20, H⟩ := H
 have A2 := Aside0.mk A20
 clear A20
 by_cases c3 : t197 = 0
 ·
  rw [if_pos c3] at H
  have c3b0 : (t197 == 0) = true := beq_iff_eq.mpr c3
  have c3b1 : (t197 != 0) = false := bne_eq_false_iff_eq.mpr c3
  clear c3
  by_cases c4 : t183 = 60000
  ·
   rw [if_pos c4] at H
   have c4b0 : (t183 == 60000) = true := beq_iff_eq.mpr c4
   have c4b1 : (t183 != 60000) = false := bne_eq_false_iff_eq.mpr c4
   clear c4
   by_cases c5 : (t177.length : Int) = 4
   ·
    rw [if_pos c5] at H
    have c5b0 : ((t177.length : Int) == 4) = true := beq_iff_eq.mpr c5
    have c5b1 : ((t177.length : Int) != 4) = false := bne_eq_false_iff_eq.mpr c5
    clear c5
    replace H := Option.bind_eq_some_iff.mp H
    obtain ⟨t198, A60, H⟩ := H
    have A6 := Aside0.mk A60
    clear A60
    obtain rfl := Option.some.inj H
    go_enter Try.func7, Try.ntmps7
    go_wp2_with (first | ((with_reducible refine gate_callee (f := 13) rfl ?_); refine goesL_ (some 2) rfl rfl Try.func13 (by kernel_rfl) rfl #[] rfl (by (try simp only [List.map_toArray, List.map_cons, List.map_nil]); first | done | rfl | (simp only [List.length_drop, List.length_take]; rfl)) ?_; (with_reducible refine (conf_Usual.calls k  t177 t180 t183 t184 t185 t186 t187 t188 t189 t190 t191 t192 t193 _ A1.out).mono ?_); rintro e w7 ⟨v178, v181, v194, rfl, ho0, ho1, ho2, hb⟩; refine ⟨_, rfl, ?_⟩; have HO179 := Aside0.mk (Kd.R_lower ho0 (below_size (HB.out))); have HO182 := Aside0.mk (Kd.R_lower ho1 (below_size (HB.out))); have HO195 := Aside0.mk (Kd.R_lower ho2 (below_size (HB.out))); replace HB := Aside0.mk (below_step (HB.out) hb); (try clear hb); (try clear ho0); (try clear ho1); (try clear ho2)) | ((with_reducible refine gate_dst (N := 1) rfl ?_); (try (refine gate_guard (by rfl) ?_; dsimp only)); refine box_event ?hg (N := 1) ?hd (cs := #[.slice none 0 0, .slice none 0 0, .int .i64 0, .int .i64 0, .int .i64 0, .int .i64 0, .int .i64 0, .int .i64 0, .int .i64 0, .int .i64 0, .int .i64 0, .int .u64 0, .slice none 0 0]) (t := 27) ?hr ?_; (case hd => rfl); (case hg => rfl); (case hr => first | (go_simp; done) | (go_simp; rfl)); intro gb196 hg w8 hbox hb; replace HO179 := Aside0.mk (Kd.R_below (HO179.out) hb); replace HO182 := Aside0.mk (Kd.R_below (HO182.out) hb); replace HO195 := Aside0.mk (Kd.R_below (HO195.out) hb); have BK196 := Aside0.mk (hbox); have GW196 := Aside0.mk ((by rw [hg]; exact (below_size (HB.out)) : w.heap.size ≤ gb196)); have GE196 := Aside0.mk ((by rw [hg]; exact (below_size (HB.out)) : w.heap.size ≤ gb196)); replace HB := Aside0.mk (below_step (HB.out) hb); clear hb hbox hg; obtain ⟨Ao9, co9, eo9⟩ := Kd.R_slice HO179.out; subst eo9; obtain ⟨hcz10_0, hcz10_1, hcz10_2, hcz10_3, hcz10_4, hcz10_5, hcz10_6, hcz10_7, hcz10_8, hcz10_9, hcz10_10, hcz10_11, hcz10_12⟩ := blkc13 BK196.out; obtain ⟨hfz10_0, hfz10_1, hfz10_2, hfz10_3, hfz10_4, hfz10_5, hfz10_6, hfz10_7, hfz10_8, hfz10_9, hfz10_10, hfz10_11, hfz10_12⟩ := blkf13 BK196.out; obtain ⟨Ao11, co11, eo11⟩ := Kd.R_slice HO182.out; subst eo11; obtain ⟨Ao12, co12, eo12⟩ := Kd.R_slice HO195.out; subst eo12) | ((with_reducible refine gate_callee (f := 8) rfl ?_); refine goesL_ (some 4) rfl rfl Try.func8 (by kernel_rfl) rfl #[.agg #[.slice Ao9 t177.length co9, .slice Ao11 t180.length co11, .int .i64 t183, .int .i64 t184, .int .i64 t185, .int .i64 t186, .int .i64 t187, .int .i64 t188, .int .i64 t189, .int .i64 t190, .int .i64 t191, .int .u64 t192, .slice Ao12 t193.length co12]] rfl (by (try simp only [List.map_toArray, List.map_cons, List.map_nil]); first | done | rfl | (simp only [List.length_drop, List.length_take]; rfl)) ?_; (with_reducible refine (conf_Check.calls k _ _ t177 _ _ t180 t183 t184 t185 t186 t187 t188 t189 t190 t191 t192 _ _ t193 t197 _ ?side1 ?side2 ?side3 ?side4 ?side5 ?side6 A2.out).mono ?_); (case side1 => refine (Kd.R_reads' (e := 46) (base := w.heap.size) (ok := fun k_ => True) (n := t177.length) (c := co9) ?_).2.2; exact ((Kd.R_mono (Kd.rfR (Kd.rfR (Kd.rfR (Kd.rfR (Kd.rfR (Kd.rfR (Kd.rfR (Kd.rfR (Kd.rfR (Kd.rfR (Kd.rfR (Kd.rfR (Kd.rfR (Kd.R_types HO179.out BK196.out (by decide))))))))))))))) (fun _ h_ => h_.1)))); (case side2 => exact (Kd.R_reads' HO179.out).2.1); (case side3 => refine (Kd.R_reads' (e := 48) (base := w.heap.size) (ok := fun k_ => True) (n := t180.length) (c := co11) ?_).2.2; exact ((Kd.R_mono (Kd.rfR (Kd.rfR (Kd.rfR (Kd.rfR (Kd.rfR (Kd.rfR (Kd.rfR (Kd.rfR (Kd.rfR (Kd.rfR (Kd.rfR (Kd.rfR (Kd.rfR (Kd.R_types HO182.out BK196.out (by decide))))))))))))))) (fun _ h_ => h_.1)))); (case side4 => exact (Kd.R_reads' HO182.out).2.1); (case side5 => refine (Kd.R_reads' (e := 50) (base := w.heap.size) (ok := fun k_ => True) (n := t193.length) (c := co12) ?_).2.2; exact ((Kd.R_mono (Kd.rfR (Kd.rfR (Kd.rfR (Kd.rfR (Kd.rfR (Kd.rfR (Kd.rfR (Kd.rfR (Kd.rfR (Kd.rfR (Kd.rfR (Kd.rfR (Kd.rfR (Kd.R_types HO195.out BK196.out (by decide))))))))))))))) (fun _ h_ => h_.1)))); (case side6 => exact (Kd.R_reads' HO195.out).2.1); rintro e w13 ⟨rfl, hb⟩; refine ⟨_, rfl, ?_⟩; replace HO179 := Aside0.mk (Kd.R_below ((Kd.R_mono (Kd.rfR (Kd.rfR (Kd.rfR (Kd.rfR (Kd.rfR (Kd.rfR (Kd.rfR (Kd.rfR (Kd.rfR (Kd.rfR (Kd.rfR (Kd.rfR (Kd.rfR (Kd.R_types HO179.out BK196.out (by decide))))))))))))))) (fun _ h_ => h_.1))) hb); replace HO182 := Aside0.mk (Kd.R_below ((Kd.R_mono (Kd.rfR (Kd.rfR (Kd.rfR (Kd.rfR (Kd.rfR (Kd.rfR (Kd.rfR (Kd.rfR (Kd.rfR (Kd.rfR (Kd.rfR (Kd.rfR (Kd.rfR (Kd.R_types HO182.out BK196.out (by decide))))))))))))))) (fun _ h_ => h_.1))) hb); replace HO195 := Aside0.mk (Kd.R_below ((Kd.R_mono (Kd.rfR (Kd.rfR (Kd.rfR (Kd.rfR (Kd.rfR (Kd.rfR (Kd.rfR (Kd.rfR (Kd.rfR (Kd.rfR (Kd.rfR (Kd.rfR (Kd.rfR (Kd.R_types HO195.out BK196.out (by decide))))))))))))))) (fun _ h_ => h_.1))) hb); replace BK196 := Aside0.mk (blk_below (g := gb196) (o := .cells #[.slice Ao9 t177.length co9, .slice Ao11 t180.length co11, .int .i64 t183, .int .i64 t184, .int .i64 t185, .int .i64 t186, .int .i64 t187, .int .i64 t188, .int .i64 t189, .int .i64 t190, .int .i64 t191, .int .u64 t192, .slice Ao12 t193.length co12] 27 (0, 0)) (by (with_reducible repeat (first | refine blk_drewN ?_ _ | refine blk_drew ?_ | refine blk_alloc ?_ _)); refine blk_put (cs := #[.slice Ao9 t177.length co9, .slice Ao11 t180.length co11, .int .i64 t183, .int .i64 t184, .int .i64 t185, .int .i64 t186, .int .i64 t187, .int .i64 t188, .int .i64 t189, .int .i64 t190, .int .i64 t191, .int .u64 t192, .slice none 0 0]) ?_ 12 _ rfl; (with_reducible repeat (first | refine blk_drewN ?_ _ | refine blk_drew ?_ | refine blk_alloc ?_ _)); refine blk_put (cs := #[.slice Ao9 t177.length co9, .slice Ao11 t180.length co11, .int .i64 t183, .int .i64 t184, .int .i64 t185, .int .i64 t186, .int .i64 t187, .int .i64 t188, .int .i64 t189, .int .i64 t190, .int .i64 t191, .int .u64 0, .slice none 0 0]) ?_ 11 _ rfl; (with_reducible repeat (first | refine blk_drewN ?_ _ | refine blk_drew ?_ | refine blk_alloc ?_ _)); refine blk_put (cs := #[.slice Ao9 t177.length co9, .slice Ao11 t180.length co11, .int .i64 t183, .int .i64 t184, .int .i64 t185, .int .i64 t186, .int .i64 t187, .int .i64 t188, .int .i64 t189, .int .i64 t190, .int .i64 0, .int .u64 0, .slice none 0 0]) ?_ 10 _ rfl; (with_reducible repeat (first | refine blk_drewN ?_ _ | refine blk_drew ?_ | refine blk_alloc ?_ _)); refine blk_put (cs := #[.slice Ao9 t177.length co9, .slice Ao11 t180.length co11, .int .i64 t183, .int .i64 t184, .int .i64 t185, .int .i64 t186, .int .i64 t187, .int .i64 t188, .int .i64 t189, .int .i64 0, .int .i64 0, .int .u64 0, .slice none 0 0]) ?_ 9 _ rfl; (with_reducible repeat (first | refine blk_drewN ?_ _ | refine blk_drew ?_ | refine blk_alloc ?_ _)); refine blk_put (cs := #[.slice Ao9 t177.length co9, .slice Ao11 t180.length co11, .int .i64 t183, .int .i64 t184, .int .i64 t185, .int .i64 t186, .int .i64 t187, .int .i64 t188, .int .i64 0, .int .i64 0, .int .i64 0, .int .u64 0, .slice none 0 0]) ?_ 8 _ rfl; (with_reducible repeat (first | refine blk_drewN ?_ _ | refine blk_drew ?_ | refine blk_alloc ?_ _)); refine blk_put (cs := #[.slice Ao9 t177.length co9, .slice Ao11 t180.length co11, .int .i64 t183, .int .i64 t184, .int .i64 t185, .int .i64 t186, .int .i64 t187, .int .i64 0, .int .i64 0, .int .i64 0, .int .i64 0, .int .u64 0, .slice none 0 0]) ?_ 7 _ rfl; (with_reducible repeat (first | refine blk_drewN ?_ _ | refine blk_drew ?_ | refine blk_alloc ?_ _)); refine blk_put (cs := #[.slice Ao9 t177.length co9, .slice Ao11 t180.length co11, .int .i64 t183, .int .i64 t184, .int .i64 t185, .int .i64 t186, .int .i64 0, .int .i64 0, .int .i64 0, .int .i64 0, .int .i64 0, .int .u64 0, .slice none 0 0]) ?_ 6 _ rfl; (with_reducible repeat (first | refine blk_drewN ?_ _ | refine blk_drew ?_ | refine blk_alloc ?_ _)); refine blk_put (cs := #[.slice Ao9 t177.length co9, .slice Ao11 t180.length co11, .int .i64 t183, .int .i64 t184, .int .i64 t185, .int .i64 0, .int .i64 0, .int .i64 0, .int .i64 0, .int .i64 0, .int .i64 0, .int .u64 0, .slice none 0 0]) ?_ 5 _ rfl; (with_reducible repeat (first | refine blk_drewN ?_ _ | refine blk_drew ?_ | refine blk_alloc ?_ _)); refine blk_put (cs := #[.slice Ao9 t177.length co9, .slice Ao11 t180.length co11, .int .i64 t183, .int .i64 t184, .int .i64 0, .int .i64 0, .int .i64 0, .int .i64 0, .int .i64 0, .int .i64 0, .int .i64 0, .int .u64 0, .slice none 0 0]) ?_ 4 _ rfl; (with_reducible repeat (first | refine blk_drewN ?_ _ | refine blk_drew ?_ | refine blk_alloc ?_ _)); refine blk_put (cs := #[.slice Ao9 t177.length co9, .slice Ao11 t180.length co11, .int .i64 t183, .int .i64 0, .int .i64 0, .int .i64 0, .int .i64 0, .int .i64 0, .int .i64 0, .int .i64 0, .int .i64 0, .int .u64 0, .slice none 0 0]) ?_ 3 _ rfl; (with_reducible repeat (first | refine blk_drewN ?_ _ | refine blk_drew ?_ | refine blk_alloc ?_ _)); refine blk_put (cs := #[.slice Ao9 t177.length co9, .slice Ao11 t180.length co11, .int .i64 0, .int .i64 0, .int .i64 0, .int .i64 0, .int .i64 0, .int .i64 0, .int .i64 0, .int .i64 0, .int .i64 0, .int .u64 0, .slice none 0 0]) ?_ 2 _ rfl; (with_reducible repeat (first | refine blk_drewN ?_ _ | refine blk_drew ?_ | refine blk_alloc ?_ _)); refine blk_put (cs := #[.slice Ao9 t177.length co9, .slice none 0 0, .int .i64 0, .int .i64 0, .int .i64 0, .int .i64 0, .int .i64 0, .int .i64 0, .int .i64 0, .int .i64 0, .int .i64 0, .int .u64 0, .slice none 0 0]) ?_ 1 _ rfl; (with_reducible repeat (first | refine blk_drewN ?_ _ | refine blk_drew ?_ | refine blk_alloc ?_ _)); refine blk_put (cs := #[.slice none 0 0, .slice none 0 0, .int .i64 0, .int .i64 0, .int .i64 0, .int .i64 0, .int .i64 0, .int .i64 0, .int .i64 0, .int .i64 0, .int .i64 0, .int .u64 0, .slice none 0 0]) ?_ 0 _ rfl; (with_reducible repeat (first | refine blk_drewN ?_ _ | refine blk_drew ?_ | refine blk_alloc ?_ _)); exact BK196.out) hb); replace HB := Aside0.mk (below_step (by repeat (first | (with_reducible first | exact HB.out | apply below_alloc | apply pw_below_drewN | apply below_drew1 | refine below_set ?_ GE196.out) | exact HB.out)) hb); (try clear hb); obtain ⟨hcz14_0, hcz14_1, hcz14_2, hcz14_3, hcz14_4, hcz14_5, hcz14_6, hcz14_7, hcz14_8, hcz14_9, hcz14_10, hcz14_11, hcz14_12⟩ := blkc13 BK196.out; obtain ⟨hfz14_0, hfz14_1, hfz14_2, hfz14_3, hfz14_4, hfz14_5, hfz14_6, hfz14_7, hfz14_8, hfz14_9, hfz14_10, hfz14_11, hfz14_12⟩ := blkf13 BK196.out) | (go_at_call 8; (refine (conf_Check.calls k _ _ ([] : List (S46)) _ _ ([] : List (S48)) 0 0 0 0 0 0 0 0 0 0 _ _ ([] : List (S50)) t198 _ ?side1 ?side2 ?side3 ?side4 ?side5 ?side6 A6.out).mono ?_); (case side1 => exact Kd.C_nil _ _); (case side2 => exact Nat.le_refl _); (case side3 => exact Kd.C_nil _ _); (case side4 => exact Nat.le_refl _); (case side5 => exact Kd.C_nil _ _); (case side6 => exact Nat.le_refl _); rintro e w15 ⟨rfl, hb⟩; replace HO179 := Aside0.mk (Kd.R_below (HO179.out) hb); replace HO182 := Aside0.mk (Kd.R_below (HO182.out) hb); replace HO195 := Aside0.mk (Kd.R_below (HO195.out) hb); replace BK196 := Aside0.mk (blk_below BK196.out hb); replace HB := Aside0.mk (below_step (HB.out) hb); (try clear hb); (try clear hi)))
    go_ret
    exact ⟨by first | rfl | (simp [errW_none, errW_some] <;> rfl) | (simp [*, errW_none, errW_some] <;> rfl), HB.out⟩
   ·
    rw [if_neg c5] at H
    have c5b0 : ((t177.length : Int) == 4) = false := beq_eq_false_iff_ne.mpr c5
    have c5b1 : ((t177.length : Int) != 4) = true := bne_iff_ne.mpr c5
    obtain rfl := Option.some.inj H
    go_enter Try.func7, Try.ntmps7
    go_wp2_with (first | ((with_reducible refine gate_callee (f := 13) rfl ?_); refine goesL_ (some 2) rfl rfl Try.func13 (by kernel_rfl) rfl #[] rfl (by (try simp only [List.map_toArray, List.map_cons, List.map_nil]); first | done | rfl | (simp only [List.length_drop, List.length_take]; rfl)) ?_; (with_reducible refine (conf_Usual.calls k  t177 t180 t183 t184 t185 t186 t187 t188 t189 t190 t191 t192 t193 _ A1.out).mono ?_); rintro e w16 ⟨v178, v181, v194, rfl, ho0, ho1, ho2, hb⟩; refine ⟨_, rfl, ?_⟩; have HO179 := Aside0.mk (Kd.R_lower ho0 (below_size (HB.out))); have HO182 := Aside0.mk (Kd.R_lower ho1 (below_size (HB.out))); have HO195 := Aside0.mk (Kd.R_lower ho2 (below_size (HB.out))); replace HB := Aside0.mk (below_step (HB.out) hb); (try clear hb); (try clear ho0); (try clear ho1); (try clear ho2)) | ((with_reducible refine gate_dst (N := 1) rfl ?_); (try (refine gate_guard (by rfl) ?_; dsimp only)); refine box_event ?hg (N := 1) ?hd (cs := #[.slice none 0 0, .slice none 0 0, .int .i64 0, .int .i64 0, .int .i64 0, .int .i64 0, .int .i64 0, .int .i64 0, .int .i64 0, .int .i64 0, .int .i64 0, .int .u64 0, .slice none 0 0]) (t := 27) ?hr ?_; (case hd => rfl); (case hg => rfl); (case hr => first | (go_simp; done) | (go_simp; rfl)); intro gb196 hg w17 hbox hb; replace HO179 := Aside0.mk (Kd.R_below (HO179.out) hb); replace HO182 := Aside0.mk (Kd.R_below (HO182.out) hb); replace HO195 := Aside0.mk (Kd.R_below (HO195.out) hb); have BK196 := Aside0.mk (hbox); have GW196 := Aside0.mk ((by rw [hg]; exact (below_size (HB.out)) : w.heap.size ≤ gb196)); have GE196 := Aside0.mk ((by rw [hg]; exact (below_size (HB.out)) : w.heap.size ≤ gb196)); replace HB := Aside0.mk (below_step (HB.out) hb); clear hb hbox hg; obtain ⟨Ao18, co18, eo18⟩ := Kd.R_slice HO179.out; subst eo18; obtain ⟨hcz19_0, hcz19_1, hcz19_2, hcz19_3, hcz19_4, hcz19_5, hcz19_6, hcz19_7, hcz19_8, hcz19_9, hcz19_10, hcz19_11, hcz19_12⟩ := blkc13 BK196.out; obtain ⟨hfz19_0, hfz19_1, hfz19_2, hfz19_3, hfz19_4, hfz19_5, hfz19_6, hfz19_7, hfz19_8, hfz19_9, hfz19_10, hfz19_11, hfz19_12⟩ := blkf13 BK196.out; obtain ⟨Ao20, co20, eo20⟩ := Kd.R_slice HO182.out; subst eo20; obtain ⟨Ao21, co21, eo21⟩ := Kd.R_slice HO195.out; subst eo21) | ((with_reducible refine gate_callee (f := 8) rfl ?_); refine goesL_ (some 4) rfl rfl Try.func8 (by kernel_rfl) rfl #[.agg #[.slice Ao18 t177.length co18, .slice Ao20 t180.length co20, .int .i64 t183, .int .i64 t184, .int .i64 t185, .int .i64 t186, .int .i64 t187, .int .i64 t188, .int .i64 t189, .int .i64 t190, .int .i64 t191, .int .u64 t192, .slice Ao21 t193.length co21]] rfl (by (try simp only [List.map_toArray, List.map_cons, List.map_nil]); first | done | rfl | (simp only [List.length_drop, List.length_take]; rfl)) ?_; (with_reducible refine (conf_Check.calls k _ _ t177 _ _ t180 t183 t184 t185 t186 t187 t188 t189 t190 t191 t192 _ _ t193 t197 _ ?side1 ?side2 ?side3 ?side4 ?side5 ?side6 A2.out).mono ?_); (case side1 => refine (Kd.R_reads' (e := 46) (base := w.heap.size) (ok := fun k_ => True) (n := t177.length) (c := co18) ?_).2.2; exact ((Kd.R_mono (Kd.rfR (Kd.rfR (Kd.rfR (Kd.rfR (Kd.rfR (Kd.rfR (Kd.rfR (Kd.rfR (Kd.rfR (Kd.rfR (Kd.rfR (Kd.rfR (Kd.rfR (Kd.R_types HO179.out BK196.out (by decide))))))))))))))) (fun _ h_ => h_.1)))); (case side2 => exact (Kd.R_reads' HO179.out).2.1); (case side3 => refine (Kd.R_reads' (e := 48) (base := w.heap.size) (ok := fun k_ => True) (n := t180.length) (c := co20) ?_).2.2; exact ((Kd.R_mono (Kd.rfR (Kd.rfR (Kd.rfR (Kd.rfR (Kd.rfR (Kd.rfR (Kd.rfR (Kd.rfR (Kd.rfR (Kd.rfR (Kd.rfR (Kd.rfR (Kd.rfR (Kd.R_types HO182.out BK196.out (by decide))))))))))))))) (fun _ h_ => h_.1)))); (case side4 => exact (Kd.R_reads' HO182.out).2.1); (case side5 => refine (Kd.R_reads' (e := 50) (base := w.heap.size) (ok := fun k_ => True) (n := t193.length) (c := co21) ?_).2.2; exact ((Kd.R_mono (Kd.rfR (Kd.rfR (Kd.rfR (Kd.rfR (Kd.rfR (Kd.rfR (Kd.rfR (Kd.rfR (Kd.rfR (Kd.rfR (Kd.rfR (Kd.rfR (Kd.rfR (Kd.R_types HO195.out BK196.out (by decide))))))))))))))) (fun _ h_ => h_.1)))); (case side6 => exact (Kd.R_reads' HO195.out).2.1); rintro e w22 ⟨rfl, hb⟩; refine ⟨_, rfl, ?_⟩; replace HO179 := Aside0.mk (Kd.R_below ((Kd.R_mono (Kd.rfR (Kd.rfR (Kd.rfR (Kd.rfR (Kd.rfR (Kd.rfR (Kd.rfR (Kd.rfR (Kd.rfR (Kd.rfR (Kd.rfR (Kd.rfR (Kd.rfR (Kd.R_types HO179.out BK196.out (by decide))))))))))))))) (fun _ h_ => h_.1))) hb); replace HO182 := Aside0.mk (Kd.R_below ((Kd.R_mono (Kd.rfR (Kd.rfR (Kd.rfR (Kd.rfR (Kd.rfR (Kd.rfR (Kd.rfR (Kd.rfR (Kd.rfR (Kd.rfR (Kd.rfR (Kd.rfR (Kd.rfR (Kd.R_types HO182.out BK196.out (by decide))))))))))))))) (fun _ h_ => h_.1))) hb); replace HO195 := Aside0.mk (Kd.R_below ((Kd.R_mono (Kd.rfR (Kd.rfR (Kd.rfR (Kd.rfR (Kd.rfR (Kd.rfR (Kd.rfR (Kd.rfR (Kd.rfR (Kd.rfR (Kd.rfR (Kd.rfR (Kd.rfR (Kd.R_types HO195.out BK196.out (by decide))))))))))))))) (fun _ h_ => h_.1))) hb); replace BK196 := Aside0.mk (blk_below (g := gb196) (o := .cells #[.slice Ao18 t177.length co18, .slice Ao20 t180.length co20, .int .i64 t183, .int .i64 t184, .int .i64 t185, .int .i64 t186, .int .i64 t187, .int .i64 t188, .int .i64 t189, .int .i64 t190, .int .i64 t191, .int .u64 t192, .slice Ao21 t193.length co21] 27 (0, 0)) (by (with_reducible repeat (first | refine blk_drewN ?_ _ | refine blk_drew ?_ | refine blk_alloc ?_ _)); refine blk_put (cs := #[.slice Ao18 t177.length co18, .slice Ao20 t180.length co20, .int .i64 t183, .int .i64 t184, .int .i64 t185, .int .i64 t186, .int .i64 t187, .int .i64 t188, .int .i64 t189, .int .i64 t190, .int .i64 t191, .int .u64 t192, .slice none 0 0]) ?_ 12 _ rfl; (with_reducible repeat (first | refine blk_drewN ?_ _ | refine blk_drew ?_ | refine blk_alloc ?_ _)); refine blk_put (cs := #[.slice Ao18 t177.length co18, .slice Ao20 t180.length co20, .int .i64 t183, .int .i64 t184, .int .i64 t185, .int .i64 t186, .int .i64 t187, .int .i64 t188, .int .i64 t189, .int .i64 t190, .int .i64 t191, .int .u64 0, .slice none 0 0]) ?_ 11 _ rfl; (with_reducible repeat (first | refine blk_drewN ?_ _ | refine blk_drew ?_ | refine blk_alloc ?_ _)); refine blk_put (cs := #[.slice Ao18 t177.length co18, .slice Ao20 t180.length co20, .int .i64 t183, .int .i64 t184, .int .i64 t185, .int .i64 t186, .int .i64 t187, .int .i64 t188, .int .i64 t189, .int .i64 t190, .int .i64 0, .int .u64 0, .slice none 0 0]) ?_ 10 _ rfl; (with_reducible repeat (first | refine blk_drewN ?_ _ | refine blk_drew ?_ | refine blk_alloc ?_ _)); refine blk_put (cs := #[.slice Ao18 t177.length co18, .slice Ao20 t180.length co20, .int .i64 t183, .int .i64 t184, .int .i64 t185, .int .i64 t186, .int .i64 t187, .int .i64 t188, .int .i64 t189, .int .i64 0, .int .i64 0, .int .u64 0, .slice none 0 0]) ?_ 9 _ rfl; (with_reducible repeat (first | refine blk_drewN ?_ _ | refine blk_drew ?_ | refine blk_alloc ?_ _)); refine blk_put (cs := #[.slice Ao18 t177.length co18, .slice Ao20 t180.length co20, .int .i64 t183, .int .i64 t184, .int .i64 t185, .int .i64 t186, .int .i64 t187, .int .i64 t188, .int .i64 0, .int .i64 0, .int .i64 0, .int .u64 0, .slice none 0 0]) ?_ 8 _ rfl; (with_reducible repeat (first | refine blk_drewN ?_ _ | refine blk_drew ?_ | refine blk_alloc ?_ _)); refine blk_put (cs := #[.slice Ao18 t177.length co18, .slice Ao20 t180.length co20, .int .i64 t183, .int .i64 t184, .int .i64 t185, .int .i64 t186, .int .i64 t187, .int .i64 0, .int .i64 0, .int .i64 0, .int .i64 0, .int .u64 0, .slice none 0 0]) ?_ 7 _ rfl; (with_reducible repeat (first | refine blk_drewN ?_ _ | refine blk_drew ?_ | refine blk_alloc ?_ _)); refine blk_put (cs := #[.slice Ao18 t177.length co18, .slice Ao20 t180.length co20, .int .i64 t183, .int .i64 t184, .int .i64 t185, .int .i64 t186, .int .i64 0, .int .i64 0, .int .i64 0, .int .i64 0, .int .i64 0, .int .u64 0, .slice none 0 0]) ?_ 6 _ rfl; (with_reducible repeat (first | refine blk_drewN ?_ _ | refine blk_drew ?_ | refine blk_alloc ?_ _)); refine blk_put (cs := #[.slice Ao18 t177.length co18, .slice Ao20 t180.length co20, .int .i64 t183, .int .i64 t184, .int .i64 t185, .int .i64 0, .int .i64 0, .int .i64 0, .int .i64 0, .int .i64 0, .int .i64 0, .int .u64 0, .slice none 0 0]) ?_ 5 _ rfl; (with_reducible repeat (first | refine blk_drewN ?_ _ | refine blk_drew ?_ | refine blk_alloc ?_ _)); refine blk_put (cs := #[.slice Ao18 t177.length co18, .slice Ao20 t180.length co20, .int .i64 t183, .int .i64 t184, .int .i64 0, .int .i64 0, .int .i64 0, .int .i64 0, .int .i64 0, .int .i64 0, .int .i64 0, .int .u64 0, .slice none 0 0]) ?_ 4 _ rfl; (with_reducible repeat (first | refine blk_drewN ?_ _ | refine blk_drew ?_ | refine blk_alloc ?_ _)); refine blk_put (cs := #[.slice Ao18 t177.length co18, .slice Ao20 t180.length co20, .int .i64 t183, .int .i64 0, .int .i64 0, .int .i64 0, .int .i64 0, .int .i64 0, .int .i64 0, .int .i64 0, .int .i64 0, .int .u64 0, .slice none 0 0]) ?_ 3 _ rfl; (with_reducible repeat (first | refine blk_drewN ?_ _ | refine blk_drew ?_ | refine blk_alloc ?_ _)); refine blk_put (cs := #[.slice Ao18 t177.length co18, .slice Ao20 t180.length co20, .int .i64 0, .int .i64 0, .int .i64 0, .int .i64 0, .int .i64 0, .int .i64 0, .int .i64 0, .int .i64 0, .int .i64 0, .int .u64 0, .slice none 0 0]) ?_ 2 _ rfl; (with_reducible repeat (first | refine blk_drewN ?_ _ | refine blk_drew ?_ | refine blk_alloc ?_ _)); refine blk_put (cs := #[.slice Ao18 t177.length co18, .slice none 0 0, .int .i64 0, .int .i64 0, .int .i64 0, .int .i64 0, .int .i64 0, .int .i64 0, .int .i64 0, .int .i64 0, .int .i64 0, .int .u64 0, .slice none 0 0]) ?_ 1 _ rfl; (with_reducible repeat (first | refine blk_drewN ?_ _ | refine blk_drew ?_ | refine blk_alloc ?_ _)); refine blk_put (cs := #[.slice none 0 0, .slice none 0 0, .int .i64 0, .int .i64 0, .int .i64 0, .int .i64 0, .int .i64 0, .int .i64 0, .int .i64 0, .int .i64 0, .int .i64 0, .int .u64 0, .slice none 0 0]) ?_ 0 _ rfl; (with_reducible repeat (first | refine blk_drewN ?_ _ | refine blk_drew ?_ | refine blk_alloc ?_ _)); exact BK196.out) hb); replace HB := Aside0.mk (below_step (by repeat (first | (with_reducible first | exact HB.out | apply below_alloc | apply pw_below_drewN | apply below_drew1 | refine below_set ?_ GE196.out) | exact HB.out)) hb); (try clear hb); obtain ⟨hcz23_0, hcz23_1, hcz23_2, hcz23_3, hcz23_4, hcz23_5, hcz23_6, hcz23_7, hcz23_8, hcz23_9, hcz23_10, hcz23_11, hcz23_12⟩ := blkc13 BK196.out; obtain ⟨hfz23_0, hfz23_1, hfz23_2, hfz23_3, hfz23_4, hfz23_5, hfz23_6, hfz23_7, hfz23_8, hfz23_9, hfz23_10, hfz23_11, hfz23_12⟩ := blkf13 BK196.out))
    go_ret
    exact ⟨by first | rfl | (simp [errW_none, errW_some] <;> rfl) | (simp [*, errW_none, errW_some] <;> rfl), HB.out⟩
  ·
   rw [if_neg c4] at H
   have c4b0 : (t183 == 60000) = false := beq_eq_false_iff_ne.mpr c4
   have c4b1 : (t183 != 60000) = true := bne_iff_ne.mpr c4
   obtain rfl := Option.some.inj H
   go_enter Try.func7, Try.ntmps7
   go_wp2_with (first | ((with_reducible refine gate_callee (f := 13) rfl ?_); refine goesL_ (some 2) rfl rfl Try.func13 (by kernel_rfl) rfl #[] rfl (by (try simp only [List.map_toArray, List.map_cons, List.map_nil]); first | done | rfl | (simp only [List.length_drop, List.length_take]; rfl)) ?_; (with_reducible refine (conf_Usual.calls k  t177 t180 t183 t184 t185 t186 t187 t188 t189 t190 t191 t192 t193 _ A1.out).mono ?_); rintro e w24 ⟨v178, v181, v194, rfl, ho0, ho1, ho2, hb⟩; refine ⟨_, rfl, ?_⟩; have HO179 := Aside0.mk (Kd.R_lower ho0 (below_size (HB.out))); have HO182 := Aside0.mk (Kd.R_lower ho1 (below_size (HB.out))); have HO195 := Aside0.mk (Kd.R_lower ho2 (below_size (HB.out))); replace HB := Aside0.mk (below_step (HB.out) hb); (try clear hb); (try clear ho0); (try clear ho1); (try clear ho2)) | ((with_reducible refine gate_dst (N := 1) rfl ?_); (try (refine gate_guard (by rfl) ?_; dsimp only)); refine box_event ?hg (N := 1) ?hd (cs := #[.slice none 0 0, .slice none 0 0, .int .i64 0, .int .i64 0, .int .i64 0, .int .i64 0, .int .i64 0, .int .i64 0, .int .i64 0, .int .i64 0, .int .i64 0, .int .u64 0, .slice none 0 0]) (t := 27) ?hr ?_; (case hd => rfl); (case hg => rfl); (case hr => first | (go_simp; done) | (go_simp; rfl)); intro gb196 hg w25 hbox hb; replace HO179 := Aside0.mk (Kd.R_below (HO179.out) hb); replace HO182 := Aside0.mk (Kd.R_below (HO182.out) hb); replace HO195 := Aside0.mk (Kd.R_below (HO195.out) hb); have BK196 := Aside0.mk (hbox); have GW196 := Aside0.mk ((by rw [hg]; exact (below_size (HB.out)) : w.heap.size ≤ gb196)); have GE196 := Aside0.mk ((by rw [hg]; exact (below_size (HB.out)) : w.heap.size ≤ gb196)); replace HB := Aside0.mk (below_step (HB.out) hb); clear hb hbox hg; obtain ⟨Ao26, co26, eo26⟩ := Kd.R_slice HO179.out; subst eo26; obtain ⟨hcz27_0, hcz27_1, hcz27_2, hcz27_3, hcz27_4, hcz27_5, hcz27_6, hcz27_7, hcz27_8, hcz27_9, hcz27_10, hcz27_11, hcz27_12⟩ := blkc13 BK196.out; obtain ⟨hfz27_0, hfz27_1, hfz27_2, hfz27_3, hfz27_4, hfz27_5, hfz27_6, hfz27_7, hfz27_8, hfz27_9, hfz27_10, hfz27_11, hfz27_12⟩ := blkf13 BK196.out; obtain ⟨Ao28, co28, eo28⟩ := Kd.R_slice HO182.out; subst eo28; obtain ⟨Ao29, co29, eo29⟩ := Kd.R_slice HO195.out; subst eo29) | ((with_reducible refine gate_callee (f := 8) rfl ?_); refine goesL_ (some 4) rfl rfl Try.func8 (by kernel_rfl) rfl #[.agg #[.slice Ao26 t177.length co26, .slice Ao28 t180.length co28, .int .i64 t183, .int .i64 t184, .int .i64 t185, .int .i64 t186, .int .i64 t187, .int .i64 t188, .int .i64 t189, .int .i64 t190, .int .i64 t191, .int .u64 t192, .slice Ao29 t193.length co29]] rfl (by (try simp only [List.map_toArray, List.map_cons, List.map_nil]); first | done | rfl | (simp only [List.length_drop, List.length_take]; rfl)) ?_; (with_reducible refine (conf_Check.calls k _ _ t177 _ _ t180 t183 t184 t185 t186 t187 t188 t189 t190 t191 t192 _ _ t193 t197 _ ?side1 ?side2 ?side3 ?side4 ?side5 ?side6 A2.out).mono ?_); (case side1 => refine (Kd.R_reads' (e := 46) (base := w.heap.size) (ok := fun k_ => True) (n := t177.length) (c := co26) ?_).2.2; exact ((Kd.R_mono (Kd.rfR (Kd.rfR (Kd.rfR (Kd.rfR (Kd.rfR (Kd.rfR (Kd.rfR (Kd.rfR (Kd.rfR (Kd.rfR (Kd.rfR (Kd.rfR (Kd.rfR (Kd.R_types HO179.out BK196.out (by decide))))))))))))))) (fun _ h_ => h_.1)))); (case side2 => exact (Kd.R_reads' HO179.out).2.1); (case side3 => refine (Kd.R_reads' (e := 48) (base := w.heap.size) (ok := fun k_ => True) (n := t180.length) (c := co28) ?_).2.2; exact ((Kd.R_mono (Kd.rfR (Kd.rfR (Kd.rfR (Kd.rfR (Kd.rfR (Kd.rfR (Kd.rfR (Kd.rfR (Kd.rfR (Kd.rfR (Kd.rfR (Kd.rfR (Kd.rfR (Kd.R_types HO182.out BK196.out (by decide))))))))))))))) (fun _ h_ => h_.1)))); (case side4 => exact (Kd.R_reads' HO182.out).2.1); (case side5 => refine (Kd.R_reads' (e := 50) (base := w.heap.size) (ok := fun k_ => True) (n := t193.length) (c := co29) ?_).2.2; exact ((Kd.R_mono (Kd.rfR (Kd.rfR (Kd.rfR (Kd.rfR (Kd.rfR (Kd.rfR (Kd.rfR (Kd.rfR (Kd.rfR (Kd.rfR (Kd.rfR (Kd.rfR (Kd.rfR (Kd.R_types HO195.out BK196.out (by decide))))))))))))))) (fun _ h_ => h_.1)))); (case side6 => exact (Kd.R_reads' HO195.out).2.1); rintro e w30 ⟨rfl, hb⟩; refine ⟨_, rfl, ?_⟩; replace HO179 := Aside0.mk (Kd.R_below ((Kd.R_mono (Kd.rfR (Kd.rfR (Kd.rfR (Kd.rfR (Kd.rfR (Kd.rfR (Kd.rfR (Kd.rfR (Kd.rfR (Kd.rfR (Kd.rfR (Kd.rfR (Kd.rfR (Kd.R_types HO179.out BK196.out (by decide))))))))))))))) (fun _ h_ => h_.1))) hb); replace HO182 := Aside0.mk (Kd.R_below ((Kd.R_mono (Kd.rfR (Kd.rfR (Kd.rfR (Kd.rfR (Kd.rfR (Kd.rfR (Kd.rfR (Kd.rfR (Kd.rfR (Kd.rfR (Kd.rfR (Kd.rfR (Kd.rfR (Kd.R_types HO182.out BK196.out (by decide))))))))))))))) (fun _ h_ => h_.1))) hb); replace HO195 := Aside0.mk (Kd.R_below ((Kd.R_mono (Kd.rfR (Kd.rfR (Kd.rfR (Kd.rfR (Kd.rfR (Kd.rfR (Kd.rfR (Kd.rfR (Kd.rfR (Kd.rfR (Kd.rfR (Kd.rfR (Kd.rfR (Kd.R_types HO195.out BK196.out (by decide))))))))))))))) (fun _ h_ => h_.1))) hb); replace BK196 := Aside0.mk (blk_below (g := gb196) (o := .cells #[.slice Ao26 t177.length co26, .slice Ao28 t180.length co28, .int .i64 t183, .int .i64 t184, .int .i64 t185, .int .i64 t186, .int .i64 t187, .int .i64 t188, .int .i64 t189, .int .i64 t190, .int .i64 t191, .int .u64 t192, .slice Ao29 t193.length co29] 27 (0, 0)) (by (with_reducible repeat (first | refine blk_drewN ?_ _ | refine blk_drew ?_ | refine blk_alloc ?_ _)); refine blk_put (cs := #[.slice Ao26 t177.length co26, .slice Ao28 t180.length co28, .int .i64 t183, .int .i64 t184, .int .i64 t185, .int .i64 t186, .int .i64 t187, .int .i64 t188, .int .i64 t189, .int .i64 t190, .int .i64 t191, .int .u64 t192, .slice none 0 0]) ?_ 12 _ rfl; (with_reducible repeat (first | refine blk_drewN ?_ _ | refine blk_drew ?_ | refine blk_alloc ?_ _)); refine blk_put (cs := #[.slice Ao26 t177.length co26, .slice Ao28 t180.length co28, .int .i64 t183, .int .i64 t184, .int .i64 t185, .int .i64 t186, .int .i64 t187, .int .i64 t188, .int .i64 t189, .int .i64 t190, .int .i64 t191, .int .u64 0, .slice none 0 0]) ?_ 11 _ rfl; (with_reducible repeat (first | refine blk_drewN ?_ _ | refine blk_drew ?_ | refine blk_alloc ?_ _)); refine blk_put (cs := #[.slice Ao26 t177.length co26, .slice Ao28 t180.length co28, .int .i64 t183, .int .i64 t184, .int .i64 t185, .int .i64 t186, .int .i64 t187, .int .i64 t188, .int .i64 t189, .int .i64 t190, .int .i64 0, .int .u64 0, .slice none 0 0]) ?_ 10 _ rfl; (with_reducible repeat (first | refine blk_drewN ?_ _ | refine blk_drew ?_ | refine blk_alloc ?_ _)); refine blk_put (cs := #[.slice Ao26 t177.length co26, .slice Ao28 t180.length co28, .int .i64 t183, .int .i64 t184, .int .i64 t185, .int .i64 t186, .int .i64 t187, .int .i64 t188, .int .i64 t189, .int .i64 0, .int .i64 0, .int .u64 0, .slice none 0 0]) ?_ 9 _ rfl; (with_reducible repeat (first | refine blk_drewN ?_ _ | refine blk_drew ?_ | refine blk_alloc ?_ _)); refine blk_put (cs := #[.slice Ao26 t177.length co26, .slice Ao28 t180.length co28, .int .i64 t183, .int .i64 t184, .int .i64 t185, .int .i64 t186, .int .i64 t187, .int .i64 t188, .int .i64 0, .int .i64 0, .int .i64 0, .int .u64 0, .slice none 0 0]) ?_ 8 _ rfl; (with_reducible repeat (first | refine blk_drewN ?_ _ | refine blk_drew ?_ | refine blk_alloc ?_ _)); refine blk_put (cs := #[.slice Ao26 t177.length co26, .slice Ao28 t180.length co28, .int .i64 t183, .int .i64 t184, .int .i64 t185, .int .i64 t186, .int .i64 t187, .int .i64 0, .int .i64 0, .int .i64 0, .int .i64 0, .int .u64 0, .slice none 0 0]) ?_ 7 _ rfl; (with_reducible repeat (first | refine blk_drewN ?_ _ | refine blk_drew ?_ | refine blk_alloc ?_ _)); refine blk_put (cs := #[.slice Ao26 t177.length co26, .slice Ao28 t180.length co28, .int .i64 t183, .int .i64 t184, .int .i64 t185, .int .i64 t186, .int .i64 0, .int .i64 0, .int .i64 0, .int .i64 0, .int .i64 0, .int .u64 0, .slice none 0 0]) ?_ 6 _ rfl; (with_reducible repeat (first | refine blk_drewN ?_ _ | refine blk_drew ?_ | refine blk_alloc ?_ _)); refine blk_put (cs := #[.slice Ao26 t177.length co26, .slice Ao28 t180.length co28, .int .i64 t183, .int .i64 t184, .int .i64 t185, .int .i64 0, .int .i64 0, .int .i64 0, .int .i64 0, .int .i64 0, .int .i64 0, .int .u64 0, .slice none 0 0]) ?_ 5 _ rfl; (with_reducible repeat (first | refine blk_drewN ?_ _ | refine blk_drew ?_ | refine blk_alloc ?_ _)); refine blk_put (cs := #[.slice Ao26 t177.length co26, .slice Ao28 t180.length co28, .int .i64 t183, .int .i64 t184, .int .i64 0, .int .i64 0, .int .i64 0, .int .i64 0, .int .i64 0, .int .i64 0, .int .i64 0, .int .u64 0, .slice none 0 0]) ?_ 4 _ rfl; (with_reducible repeat (first | refine blk_drewN ?_ _ | refine blk_drew ?_ | refine blk_alloc ?_ _)); refine blk_put (cs := #[.slice Ao26 t177.length co26, .slice Ao28 t180.length co28, .int .i64 t183, .int .i64 0, .int .i64 0, .int .i64 0, .int .i64 0, .int .i64 0, .int .i64 0, .int .i64 0, .int .i64 0, .int .u64 0, .slice none 0 0]) ?_ 3 _ rfl; (with_reducible repeat (first | refine blk_drewN ?_ _ | refine blk_drew ?_ | refine blk_alloc ?_ _)); refine blk_put (cs := #[.slice Ao26 t177.length co26, .slice Ao28 t180.length co28, .int .i64 0, .int .i64 0, .int .i64 0, .int .i64 0, .int .i64 0, .int .i64 0, .int .i64 0, .int .i64 0, .int .i64 0, .int .u64 0, .slice none 0 0]) ?_ 2 _ rfl; (with_reducible repeat (first | refine blk_drewN ?_ _ | refine blk_drew ?_ | refine blk_alloc ?_ _)); refine blk_put (cs := #[.slice Ao26 t177.length co26, .slice none 0 0, .int .i64 0, .int .i64 0, .int .i64 0, .int .i64 0, .int .i64 0, .int .i64 0, .int .i64 0, .int .i64 0, .int .i64 0, .int .u64 0, .slice none 0 0]) ?_ 1 _ rfl; (with_reducible repeat (first | refine blk_drewN ?_ _ | refine blk_drew ?_ | refine blk_alloc ?_ _)); refine blk_put (cs := #[.slice none 0 0, .slice none 0 0, .int .i64 0, .int .i64 0, .int .i64 0, .int .i64 0, .int .i64 0, .int .i64 0, .int .i64 0, .int .i64 0, .int .i64 0, .int .u64 0, .slice none 0 0]) ?_ 0 _ rfl; (with_reducible repeat (first | refine blk_drewN ?_ _ | refine blk_drew ?_ | refine blk_alloc ?_ _)); exact BK196.out) hb); replace HB := Aside0.mk (below_step (by repeat (first | (with_reducible first | exact HB.out | apply below_alloc | apply pw_below_drewN | apply below_drew1 | refine below_set ?_ GE196.out) | exact HB.out)) hb); (try clear hb); obtain ⟨hcz31_0, hcz31_1, hcz31_2, hcz31_3, hcz31_4, hcz31_5, hcz31_6, hcz31_7, hcz31_8, hcz31_9, hcz31_10, hcz31_11, hcz31_12⟩ := blkc13 BK196.out; obtain ⟨hfz31_0, hfz31_1, hfz31_2, hfz31_3, hfz31_4, hfz31_5, hfz31_6, hfz31_7, hfz31_8, hfz31_9, hfz31_10, hfz31_11, hfz31_12⟩ := blkf13 BK196.out))
   go_ret
   exact ⟨by first | rfl | (simp [errW_none, errW_some] <;> rfl) | (simp [*, errW_none, errW_some] <;> rfl), HB.out⟩
 ·
  rw [if_neg c3] at H
  have c3b0 : (t197 == 0) = false := beq_eq_false_iff_ne.mpr c3
  have c3b1 : (t197 != 0) = true := bne_iff_ne.mpr c3
  obtain rfl := Option.some.inj H
  go_enter Try.func7, Try.ntmps7
  go_wp2_with (first | ((with_reducible refine gate_callee (f := 13) rfl ?_); refine goesL_ (some 2) rfl rfl Try.func13 (by kernel_rfl) rfl #[] rfl (by (try simp only [List.map_toArray, List.map_cons, List.map_nil]); first | done | rfl | (simp only [List.length_drop, List.length_take]; rfl)) ?_; (with_reducible refine (conf_Usual.calls k  t177 t180 t183 t184 t185 t186 t187 t188 t189 t190 t191 t192 t193 _ A1.out).mono ?_); rintro e w32 ⟨v178, v181, v194, rfl, ho0, ho1, ho2, hb⟩; refine ⟨_, rfl, ?_⟩; have HO179 := Aside0.mk (Kd.R_lower ho0 (below_size (HB.out))); have HO182 := Aside0.mk (Kd.R_lower ho1 (below_size (HB.out))); have HO195 := Aside0.mk (Kd.R_lower ho2 (below_size (HB.out))); replace HB := Aside0.mk (below_step (HB.out) hb); (try clear hb); (try clear ho0); (try clear ho1); (try clear ho2)) | ((with_reducible refine gate_dst (N := 1) rfl ?_); (try (refine gate_guard (by rfl) ?_; dsimp only)); refine box_event ?hg (N := 1) ?hd (cs := #[.slice none 0 0, .slice none 0 0, .int .i64 0, .int .i64 0, .int .i64 0, .int .i64 0, .int .i64 0, .int .i64 0, .int .i64 0, .int .i64 0, .int .i64 0, .int .u64 0, .slice none 0 0]) (t := 27) ?hr ?_; (case hd => rfl); (case hg => rfl); (case hr => first | (go_simp; done) | (go_simp; rfl)); intro gb196 hg w33 hbox hb; replace HO179 := Aside0.mk (Kd.R_below (HO179.out) hb); replace HO182 := Aside0.mk (Kd.R_below (HO182.out) hb); replace HO195 := Aside0.mk (Kd.R_below (HO195.out) hb); have BK196 := Aside0.mk (hbox); have GW196 := Aside0.mk ((by rw [hg]; exact (below_size (HB.out)) : w.heap.size ≤ gb196)); have GE196 := Aside0.mk ((by rw [hg]; exact (below_size (HB.out)) : w.heap.size ≤ gb196)); replace HB := Aside0.mk (below_step (HB.out) hb); clear hb hbox hg; obtain ⟨Ao34, co34, eo34⟩ := Kd.R_slice HO179.out; subst eo34; obtain ⟨hcz35_0, hcz35_1, hcz35_2, hcz35_3, hcz35_4, hcz35_5, hcz35_6, hcz35_7, hcz35_8, hcz35_9, hcz35_10, hcz35_11, hcz35_12⟩ := blkc13 BK196.out; obtain ⟨hfz35_0, hfz35_1, hfz35_2, hfz35_3, hfz35_4, hfz35_5, hfz35_6, hfz35_7, hfz35_8, hfz35_9, hfz35_10, hfz35_11, hfz35_12⟩ := blkf13 BK196.out; obtain ⟨Ao36, co36, eo36⟩ := Kd.R_slice HO182.out; subst eo36; obtain ⟨Ao37, co37, eo37⟩ := Kd.R_slice HO195.out; subst eo37) | ((with_reducible refine gate_callee (f := 8) rfl ?_); refine goesL_ (some 4) rfl rfl Try.func8 (by kernel_rfl) rfl #[.agg #[.slice Ao34 t177.length co34, .slice Ao36 t180.length co36, .int .i64 t183, .int .i64 t184, .int .i64 t185, .int .i64 t186, .int .i64 t187, .int .i64 t188, .int .i64 t189, .int .i64 t190, .int .i64 t191, .int .u64 t192, .slice Ao37 t193.length co37]] rfl (by (try simp only [List.map_toArray, List.map_cons, List.map_nil]); first | done | rfl | (simp only [List.length_drop, List.length_take]; rfl)) ?_; (with_reducible refine (conf_Check.calls k _ _ t177 _ _ t180 t183 t184 t185 t186 t187 t188 t189 t190 t191 t192 _ _ t193 t197 _ ?side1 ?side2 ?side3 ?side4 ?side5 ?side6 A2.out).mono ?_); (case side1 => refine (Kd.R_reads' (e := 46) (base := w.heap.size) (ok := fun k_ => True) (n := t177.length) (c := co34) ?_).2.2; exact ((Kd.R_mono (Kd.rfR (Kd.rfR (Kd.rfR (Kd.rfR (Kd.rfR (Kd.rfR (Kd.rfR (Kd.rfR (Kd.rfR (Kd.rfR (Kd.rfR (Kd.rfR (Kd.rfR (Kd.R_types HO179.out BK196.out (by decide))))))))))))))) (fun _ h_ => h_.1)))); (case side2 => exact (Kd.R_reads' HO179.out).2.1); (case side3 => refine (Kd.R_reads' (e := 48) (base := w.heap.size) (ok := fun k_ => True) (n := t180.length) (c := co36) ?_).2.2; exact ((Kd.R_mono (Kd.rfR (Kd.rfR (Kd.rfR (Kd.rfR (Kd.rfR (Kd.rfR (Kd.rfR (Kd.rfR (Kd.rfR (Kd.rfR (Kd.rfR (Kd.rfR (Kd.rfR (Kd.R_types HO182.out BK196.out (by decide))))))))))))))) (fun _ h_ => h_.1)))); (case side4 => exact (Kd.R_reads' HO182.out).2.1); (case side5 => refine (Kd.R_reads' (e := 50) (base := w.heap.size) (ok := fun k_ => True) (n := t193.length) (c := co37) ?_).2.2; exact ((Kd.R_mono (Kd.rfR (Kd.rfR (Kd.rfR (Kd.rfR (Kd.rfR (Kd.rfR (Kd.rfR (Kd.rfR (Kd.rfR (Kd.rfR (Kd.rfR (Kd.rfR (Kd.rfR (Kd.R_types HO195.out BK196.out (by decide))))))))))))))) (fun _ h_ => h_.1)))); (case side6 => exact (Kd.R_reads' HO195.out).2.1); rintro e w38 ⟨rfl, hb⟩; refine ⟨_, rfl, ?_⟩; replace HO179 := Aside0.mk (Kd.R_below ((Kd.R_mono (Kd.rfR (Kd.rfR (Kd.rfR (Kd.rfR (Kd.rfR (Kd.rfR (Kd.rfR (Kd.rfR (Kd.rfR (Kd.rfR (Kd.rfR (Kd.rfR (Kd.rfR (Kd.R_types HO179.out BK196.out (by decide))))))))))))))) (fun _ h_ => h_.1))) hb); replace HO182 := Aside0.mk (Kd.R_below ((Kd.R_mono (Kd.rfR (Kd.rfR (Kd.rfR (Kd.rfR (Kd.rfR (Kd.rfR (Kd.rfR (Kd.rfR (Kd.rfR (Kd.rfR (Kd.rfR (Kd.rfR (Kd.rfR (Kd.R_types HO182.out BK196.out (by decide))))))))))))))) (fun _ h_ => h_.1))) hb); replace HO195 := Aside0.mk (Kd.R_below ((Kd.R_mono (Kd.rfR (Kd.rfR (Kd.rfR (Kd.rfR (Kd.rfR (Kd.rfR (Kd.rfR (Kd.rfR (Kd.rfR (Kd.rfR (Kd.rfR (Kd.rfR (Kd.rfR (Kd.R_types HO195.out BK196.out (by decide))))))))))))))) (fun _ h_ => h_.1))) hb); replace BK196 := Aside0.mk (blk_below (g := gb196) (o := .cells #[.slice Ao34 t177.length co34, .slice Ao36 t180.length co36, .int .i64 t183, .int .i64 t184, .int .i64 t185, .int .i64 t186, .int .i64 t187, .int .i64 t188, .int .i64 t189, .int .i64 t190, .int .i64 t191, .int .u64 t192, .slice Ao37 t193.length co37] 27 (0, 0)) (by (with_reducible repeat (first | refine blk_drewN ?_ _ | refine blk_drew ?_ | refine blk_alloc ?_ _)); refine blk_put (cs := #[.slice Ao34 t177.length co34, .slice Ao36 t180.length co36, .int .i64 t183, .int .i64 t184, .int .i64 t185, .int .i64 t186, .int .i64 t187, .int .i64 t188, .int .i64 t189, .int .i64 t190, .int .i64 t191, .int .u64 t192, .slice none 0 0]) ?_ 12 _ rfl; (with_reducible repeat (first | refine blk_drewN ?_ _ | refine blk_drew ?_ | refine blk_alloc ?_ _)); refine blk_put (cs := #[.slice Ao34 t177.length co34, .slice Ao36 t180.length co36, .int .i64 t183, .int .i64 t184, .int .i64 t185, .int .i64 t186, .int .i64 t187, .int .i64 t188, .int .i64 t189, .int .i64 t190, .int .i64 t191, .int .u64 0, .slice none 0 0]) ?_ 11 _ rfl; (with_reducible repeat (first | refine blk_drewN ?_ _ | refine blk_drew ?_ | refine blk_alloc ?_ _)); refine blk_put (cs := #[.slice Ao34 t177.length co34, .slice Ao36 t180.length co36, .int .i64 t183, .int .i64 t184, .int .i64 t185, .int .i64 t186, .int .i64 t187, .int .i64 t188, .int .i64 t189, .int .i64 t190, .int .i64 0, .int .u64 0, .slice none 0 0]) ?_ 10 _ rfl; (with_reducible repeat (first | refine blk_drewN ?_ _ | refine blk_drew ?_ | refine blk_alloc ?_ _)); refine blk_put (cs := #[.slice Ao34 t177.length co34, .slice Ao36 t180.length co36, .int .i64 t183, .int .i64 t184, .int .i64 t185, .int .i64 t186, .int .i64 t187, .int .i64 t188, .int .i64 t189, .int .i64 0, .int .i64 0, .int .u64 0, .slice none 0 0]) ?_ 9 _ rfl; (with_reducible repeat (first | refine blk_drewN ?_ _ | refine blk_drew ?_ | refine blk_alloc ?_ _)); refine blk_put (cs := #[.slice Ao34 t177.length co34, .slice Ao36 t180.length co36, .int .i64 t183, .int .i64 t184, .int .i64 t185, .int .i64 t186, .int .i64 t187, .int .i64 t188, .int .i64 0, .int .i64 0, .int .i64 0, .int .u64 0, .slice none 0 0]) ?_ 8 _ rfl; (with_reducible repeat (first | refine blk_drewN ?_ _ | refine blk_drew ?_ | refine blk_alloc ?_ _)); refine blk_put (cs := #[.slice Ao34 t177.length co34, .slice Ao36 t180.length co36, .int .i64 t183, .int .i64 t184, .int .i64 t185, .int .i64 t186, .int .i64 t187, .int .i64 0, .int .i64 0, .int .i64 0, .int .i64 0, .int .u64 0, .slice none 0 0]) ?_ 7 _ rfl; (with_reducible repeat (first | refine blk_drewN ?_ _ | refine blk_drew ?_ | refine blk_alloc ?_ _)); refine blk_put (cs := #[.slice Ao34 t177.length co34, .slice Ao36 t180.length co36, .int .i64 t183, .int .i64 t184, .int .i64 t185, .int .i64 t186, .int .i64 0, .int .i64 0, .int .i64 0, .int .i64 0, .int .i64 0, .int .u64 0, .slice none 0 0]) ?_ 6 _ rfl; (with_reducible repeat (first | refine blk_drewN ?_ _ | refine blk_drew ?_ | refine blk_alloc ?_ _)); refine blk_put (cs := #[.slice Ao34 t177.length co34, .slice Ao36 t180.length co36, .int .i64 t183, .int .i64 t184, .int .i64 t185, .int .i64 0, .int .i64 0, .int .i64 0, .int .i64 0, .int .i64 0, .int .i64 0, .int .u64 0, .slice none 0 0]) ?_ 5 _ rfl; (with_reducible repeat (first | refine blk_drewN ?_ _ | refine blk_drew ?_ | refine blk_alloc ?_ _)); refine blk_put (cs := #[.slice Ao34 t177.length co34, .slice Ao36 t180.length co36, .int .i64 t183, .int .i64 t184, .int .i64 0, .int .i64 0, .int .i64 0, .int .i64 0, .int .i64 0, .int .i64 0, .int .i64 0, .int .u64 0, .slice none 0 0]) ?_ 4 _ rfl; (with_reducible repeat (first | refine blk_drewN ?_ _ | refine blk_drew ?_ | refine blk_alloc ?_ _)); refine blk_put (cs := #[.slice Ao34 t177.length co34, .slice Ao36 t180.length co36, .int .i64 t183, .int .i64 0, .int .i64 0, .int .i64 0, .int .i64 0, .int .i64 0, .int .i64 0, .int .i64 0, .int .i64 0, .int .u64 0, .slice none 0 0]) ?_ 3 _ rfl; (with_reducible repeat (first | refine blk_drewN ?_ _ | refine blk_drew ?_ | refine blk_alloc ?_ _)); refine blk_put (cs := #[.slice Ao34 t177.length co34, .slice Ao36 t180.length co36, .int .i64 0, .int .i64 0, .int .i64 0, .int .i64 0, .int .i64 0, .int .i64 0, .int .i64 0, .int .i64 0, .int .i64 0, .int .u64 0, .slice none 0 0]) ?_ 2 _ rfl; (with_reducible repeat (first | refine blk_drewN ?_ _ | refine blk_drew ?_ | refine blk_alloc ?_ _)); refine blk_put (cs := #[.slice Ao34 t177.length co34, .slice none 0 0, .int .i64 0, .int .i64 0, .int .i64 0, .int .i64 0, .int .i64 0, .int .i64 0, .int .i64 0, .int .i64 0, .int .i64 0, .int .u64 0, .slice none 0 0]) ?_ 1 _ rfl; (with_reducible repeat (first | refine blk_drewN ?_ _ | refine blk_drew ?_ | refine blk_alloc ?_ _)); refine blk_put (cs := #[.slice none 0 0, .slice none 0 0, .int .i64 0, .int .i64 0, .int .i64 0, .int .i64 0, .int .i64 0, .int .i64 0, .int .i64 0, .int .i64 0, .int .i64 0, .int .u64 0, .slice none 0 0]) ?_ 0 _ rfl; (with_reducible repeat (first | refine blk_drewN ?_ _ | refine blk_drew ?_ | refine blk_alloc ?_ _)); exact BK196.out) hb); replace HB := Aside0.mk (below_step (by repeat (first | (with_reducible first | exact HB.out | apply below_alloc | apply pw_below_drewN | apply below_drew1 | refine below_set ?_ GE196.out) | exact HB.out)) hb); (try clear hb); (try clear hi)))
  go_ret
  exact ⟨by first | rfl | (simp [errW_none, errW_some] <;> rfl) | (simp [*, errW_none, errW_some] <;> rfl), HB.out⟩
end Go.Proofs.Ytjlbgopgeepiaaa.PConf
set_option linter.unusedVariables false
namespace Go.Proofs.Ytjlbgopgeepiaaa.LemAwakeConf
open Go.RowKit Go.Proofs.Ytjlbgopgeepiaaa.PConf Go.Proofs.YtjlbgopgeepiaaaW.PrintWords Go.Proofs.YtjlbgopgeepiaaaW.PrintLast Go.Proofs.YtjlbgopgeepiaaaW.PrintMore
theorem awake_20 : busbarlaw15_awake.f 20 = some true := by decide +kernel
theorem awake_ev {k : Nat} (h : 20 ≤ k) : busbarlaw15_awake.f k = some true := at_rounds busbarlaw15_awake.mono h awake_20
end Go.Proofs.Ytjlbgopgeepiaaa.LemAwakeConf
set_option linter.unusedVariables false
set_option linter.unusedSimpArgs false
namespace Go.Proofs.Ytjlbgopgeepiaaa.Conf
open Go.RowKit Go.Proofs.Ytjlbgopgeepiaaa.PConf Go.Proofs.YtjlbgopgeepiaaaW.PrintWords Go.Proofs.YtjlbgopgeepiaaaW.PrintLast Go.Proofs.YtjlbgopgeepiaaaW.PrintMore Go.Proofs.Ytjlbgopgeepiaaa.Num Go.Proofs.Ytjlbgopgeepiaaa.LemWithinConf Go.Proofs.Ytjlbgopgeepiaaa.LemDigitConf Go.Proofs.Ytjlbgopgeepiaaa.LemSpanConf Go.Proofs.Ytjlbgopgeepiaaa.LemCheckConf Go.Proofs.Ytjlbgopgeepiaaa.LemGroupConf Go.Proofs.Ytjlbgopgeepiaaa.LemGChkConf Go.Proofs.Ytjlbgopgeepiaaa.LemIdenConf Go.Proofs.Ytjlbgopgeepiaaa.LemConfConf Go.Proofs.YtjlbgopgeepiaaaW.PrintMore Go.Proofs.Ytjlbgopgeepiaaa.LemWithinConf
attribute [local go_sem] plus_setCell_drewN plus_cell_same
theorem within_calls (a n : Int) (hn : 0 < n) (hn2 : n < 4611686018427387904) (w : World) : Calls Try.prog 12 #[.int .i64 a, .int .i64 n] w fun e w' => e = .returned (.int .i64 (a % n)) ∧ ∃ nd, w' = w.drewN nd := by
  refine (busbarlaw0_Within.calls a n (a % n) w (within_eq a n hn hn2)).mono ?_
  rintro e w1 ⟨rfl, hd⟩
  exact ⟨rfl, hd.out⟩
theorem within_b (a n : Int) (hn : 0 < n) (hn2 : n < 4611686018427387904) (w : World) : Calls Try.prog 12 #[.int .i64 a, .int .i64 n] w fun e w' => e = .returned (.int .i64 (a % n)) ∧ Below w.heap.size w w' := by
  refine (within_calls a n hn hn2 w).mono ?_
  rintro e w1 ⟨rfl, nd, rfl⟩
  exact ⟨rfl, pw_below_drewN (Below.refl _ _) nd⟩
def umap : List S46 := [(⟨0, 0, 1000⟩ : S46), (⟨1, 0, 1000⟩ : S46), (⟨2, 0, 1000⟩ : S46), (⟨3, 0, 1000⟩ : S46)]
theorem usual_20 : conf_Usual.f 20 = some (umap, [], 60000, 100, 32, 8, 10000, 100, 500, 1024, 1024, 0, uobj) := by kernel_rfl
theorem usual_c (w : World) : Calls Try.prog 13 #[] w fun e w' => ∃ (A0 : Option Addr) (c0 : Nat) (A1 : Option Addr) (c1 : Nat) (A2 : Option Addr) (c2 : Nat), e = .returned (.agg #[.slice A0 4 c0, .slice A1 0 c1, .int .i64 60000, .int .i64 100, .int .i64 32, .int .i64 8, .int .i64 10000, .int .i64 100, .int .i64 500, .int .i64 1024, .int .i64 1024, .int .u64 0, .slice A2 3 c2]) ∧ (Kd.C k46 w' A0 4 umap ∧ 4 ≤ c0 ∧ Kd.C k48 w' A1 0 [] ∧ Kd.C k50 w' A2 3 uobj ∧ 3 ≤ c2) ∧ Below w.heap.size w w' := by
  refine (conf_Usual.calls 20 umap [] 60000 100 32 8 10000 100 500 1024 1024 0 uobj w usual_20).mono ?_
  rintro e w1 ⟨v0, v1, v12, rfl, h0, h1, h2, hb⟩
  obtain ⟨A0, c0, rfl⟩ := Kd.R_slice h0
  obtain ⟨A1, c1, rfl⟩ := Kd.R_slice h1
  obtain ⟨A2, c2, rfl⟩ := Kd.R_slice h2
  exact ⟨A0, c0, A1, c1, A2, c2, rfl, ⟨(Kd.R_reads' h0).2.2, (Kd.R_reads' h0).2.1, (Kd.R_reads' h1).2.2, (Kd.R_reads' h2).2.2, (Kd.R_reads' h2).2.1⟩, hb⟩
theorem umap_ok : chk umap 60000 = 0 := by decide +kernel
theorem uobj_ok : OkO uobj := by
  refine ⟨by decide, ?_, ⟨_, _, _, [], rfl, rfl, rfl, rfl⟩⟩
  intro x hx
  simp only [uobj, List.mem_cons, List.not_mem_nil, or_false] at hx
  obtain rfl | rfl | rfl := hx <;> exact ⟨by decide, by decide, by decide⟩
theorem ucheck (a3 a4 a5 a6 a7 a8 a9 a10 : Int) : conf_Check.f 9001 umap [] 60000 a3 a4 a5 a6 a7 a8 a9 a10 0 uobj = some (if InR a3 a4 a5 a6 a7 a8 a9 a10 then 0 else 1) := by
  have hm : umap.length = 4 := rfl
  have hu : uobj.length = 3 := rfl
  rw [conf_f]
  by_cases h : InR a3 a4 a5 a6 a7 a8 a9 a10
  · rw [if_pos h, if_pos h]
    unfold tail
    rw [check_any umap 60000 (by omega) (by omega), Option.bind_some, umap_ok, if_pos rfl, gcheck_eq [] umap (by first | omega | simp) (by first | omega | simp) (by rw [hm]; simp), Option.bind_some, show gchk [] umap = 0 from rfl, if_pos rfl, iden_ok uobj (by omega) uobj_ok (by omega), Option.bind_some]
  · rw [if_neg h, if_neg h]
def lowk (k : Int) : Int := if k = 0 then 1 else if k = 1 then 1 else if k = 2 then 0 else if k = 3 then 0 else if k = 4 then 1 else if k = 5 then 1 else 260
def mostk (k : Int) : Int := if k = 0 then 65535 else if k = 1 then 32 else if k = 2 then 32 else if k = 3 then 1048576 else if k = 4 then 1000 else if k = 5 then 5000 else 65536
theorem low_at {w : World} {g : Nat} (h : w.heap[g]? = some (.cells #[.int .i64 1, .int .i64 1, .int .i64 0, .int .i64 0, .int .i64 1, .int .i64 1, .int .i64 260, .int .i64 260] 35 (0, 0))) (k : Int) (hk : 0 ≤ k ∧ k < 8) : w.cell? ⟨g, k.toNat, none⟩ = some (.int .i64 (lowk k)) := by
  rw [blk_cell h]
  obtain rfl | rfl | rfl | rfl | rfl | rfl | rfl | rfl : k = 0 ∨ k = 1 ∨ k = 2 ∨ k = 3 ∨ k = 4 ∨ k = 5 ∨ k = 6 ∨ k = 7 := by omega
  all_goals rfl
theorem most_at {w : World} {g : Nat} (h : w.heap[g]? = some (.cells #[.int .i64 65535, .int .i64 32, .int .i64 32, .int .i64 1048576, .int .i64 1000, .int .i64 5000, .int .i64 65536, .int .i64 65536] 35 (0, 0))) (k : Int) (hk : 0 ≤ k ∧ k < 8) : w.cell? ⟨g, k.toNat, none⟩ = some (.int .i64 (mostk k)) := by
  rw [blk_cell h]
  obtain rfl | rfl | rfl | rfl | rfl | rfl | rfl | rfl : k = 0 ∨ k = 1 ∨ k = 2 ∨ k = 3 ∨ k = 4 ∨ k = 5 ∨ k = 6 ∨ k = 7 := by omega
  all_goals rfl
def ucells (a0 : Option Addr) (e0 : Nat) (a1 : Option Addr) (e1 : Nat) (a2 : Option Addr) (e2 : Nat) : Array Value := #[.slice a0 4 e0, .slice a1 0 e1, .int .i64 60000, .int .i64 100, .int .i64 32, .int .i64 8, .int .i64 10000, .int .i64 100, .int .i64 500, .int .i64 1024, .int .i64 1024, .int .u64 0, .slice a2 3 e2]
theorem conf_cells (a0 : Option Addr) (e0 : Nat) (a1 : Option Addr) (e1 : Nat) (a2 : Option Addr) (e2 : Nat) (k : Int) (hk : 0 ≤ k ∧ k < 8) (x : Int) : ∃ z3 z4 z5 z6 z7 z8 z9 z10 : Int, (ucells a0 e0 a1 e1 a2 e2).setIfInBounds (3 + k.toNat) (.int .i64 x) = #[.slice a0 4 e0, .slice a1 0 e1, .int .i64 60000, .int .i64 z3, .int .i64 z4, .int .i64 z5, .int .i64 z6, .int .i64 z7, .int .i64 z8, .int .i64 z9, .int .i64 z10, .int .u64 0, .slice a2 3 e2] ∧ ((lowk k ≤ x ∧ x ≤ mostk k) ↔ InR z3 z4 z5 z6 z7 z8 z9 z10) := by
  obtain rfl | rfl | rfl | rfl | rfl | rfl | rfl | rfl : k = 0 ∨ k = 1 ∨ k = 2 ∨ k = 3 ∨ k = 4 ∨ k = 5 ∨ k = 6 ∨ k = 7 := by omega
  · exact ⟨x, 32, 8, 10000, 100, 500, 1024, 1024, rfl, by unfold InR lowk mostk; omega⟩
  · exact ⟨100, x, 8, 10000, 100, 500, 1024, 1024, rfl, by unfold InR lowk mostk; omega⟩
  · exact ⟨100, 32, x, 10000, 100, 500, 1024, 1024, rfl, by unfold InR lowk mostk; omega⟩
  · exact ⟨100, 32, 8, x, 100, 500, 1024, 1024, rfl, by unfold InR lowk mostk; omega⟩
  · exact ⟨100, 32, 8, 10000, x, 500, 1024, 1024, rfl, by unfold InR lowk mostk; omega⟩
  · exact ⟨100, 32, 8, 10000, 100, x, 1024, 1024, rfl, by unfold InR lowk mostk; omega⟩
  · exact ⟨100, 32, 8, 10000, 100, 500, x, 1024, rfl, by unfold InR lowk mostk; omega⟩
  · exact ⟨100, 32, 8, 10000, 100, 500, 1024, x, rfl, by unfold InR lowk mostk; omega⟩
theorem blkc13 {w : World} {g : Nat} {t : TypeId} {v0 v1 v2 v3 v4 v5 v6 v7 v8 v9 v10 v11 v12 : Value} (h : w.heap[g]? = some (.cells #[v0, v1, v2, v3, v4, v5, v6, v7, v8, v9, v10, v11, v12] t (0, 0))) : w.cell? ⟨g, 0, none⟩ = some v0 ∧ w.cell? ⟨g, 1, none⟩ = some v1 ∧ w.cell? ⟨g, 2, none⟩ = some v2 ∧ w.cell? ⟨g, 3, none⟩ = some v3 ∧ w.cell? ⟨g, 4, none⟩ = some v4 ∧ w.cell? ⟨g, 5, none⟩ = some v5 ∧ w.cell? ⟨g, 6, none⟩ = some v6 ∧ w.cell? ⟨g, 7, none⟩ = some v7 ∧ w.cell? ⟨g, 8, none⟩ = some v8 ∧ w.cell? ⟨g, 9, none⟩ = some v9 ∧ w.cell? ⟨g, 10, none⟩ = some v10 ∧ w.cell? ⟨g, 11, none⟩ = some v11 ∧ w.cell? ⟨g, 12, none⟩ = some v12 := ⟨blk_cell h 0, blk_cell h 1, blk_cell h 2, blk_cell h 3, blk_cell h 4, blk_cell h 5, blk_cell h 6, blk_cell h 7, blk_cell h 8, blk_cell h 9, blk_cell h 10, blk_cell h 11, blk_cell h 12⟩
theorem check_c (w : World) (A0 : Option Addr) (c0 : Nat) (A1 : Option Addr) (c1 : Nat) (A2 : Option Addr) (c2 : Nat) (z3 z4 z5 z6 z7 z8 z9 z10 : Int) (h : Kd.C k46 w A0 4 umap ∧ 4 ≤ c0 ∧ Kd.C k48 w A1 0 [] ∧ Kd.C k50 w A2 3 uobj ∧ 3 ≤ c2) (r : Int) (hr : r = if InR z3 z4 z5 z6 z7 z8 z9 z10 then 0 else 1) : Calls Try.prog 8 #[.agg #[.slice A0 4 c0, .slice A1 0 c1, .int .i64 60000, .int .i64 z3, .int .i64 z4, .int .i64 z5, .int .i64 z6, .int .i64 z7, .int .i64 z8, .int .i64 z9, .int .i64 z10, .int .u64 0, .slice A2 3 c2]] w fun e w' => e = .returned (.int .i64 r) ∧ Below w.heap.size w w' :=
  conf_Check.calls 9001 A0 c0 umap A1 c1 [] 60000 z3 z4 z5 z6 z7 z8 z9 z10 0 A2 c2 uobj r w h.1 h.2.1 h.2.2.1 (Nat.zero_le _) h.2.2.2.1 h.2.2.2.2 (by rw [ucheck, hr])
set_option maxRecDepth 100000 in
set_option maxHeartbeats 4000000 in
theorem ConfBounds_calls (p0 : Int) (high : Bool) (p2 : Int) (w : World) : Calls Try.prog 4 #[.int .i64 p0, .bool high, .int .i64 p2] w fun e w' => e = .returned (.bool true) ∧ Below w.heap.size w w' := by
  have hu35 := Try.underlying35
  have hu27 := Try.underlying27
  go_enter Try.func4, Try.ntmps4
  go_wp2_with (fail)
  refine (busbarlaw15_awake.calls 10000 true _ (LemAwakeConf.awake_ev (by omega))).mono ?_
  rintro e w1 ⟨rfl, hb⟩
  have B1 := Lib.hid hb
  clear hb
  go_wp2_with (fail)
  refine (within_b p0 8 (by omega) (by omega) _).mono ?_
  rintro e w2 ⟨rfl, hb⟩
  obtain ⟨k, hk⟩ : ∃ k, k = p0 % 8 := ⟨_, rfl⟩
  rw [← hk]
  have hk8 : 0 ≤ k ∧ k < 8 := by omega
  have K8 := Lib.hid hk8
  have XL := Lib.hid (blk_below (blk_alloc (blk_new w1 (.cells #[.int .i64 1, .int .i64 1, .int .i64 0, .int .i64 0, .int .i64 1, .int .i64 1, .int .i64 260, .int .i64 260] 35 (0, 0))) (.cells #[.int .i64 65535, .int .i64 32, .int .i64 32, .int .i64 1048576, .int .i64 1000, .int .i64 5000, .int .i64 65536, .int .i64 65536] 35 (0, 0))) hb)
  have XM := Lib.hid (blk_below (blk_new (w1.alloc (.cells #[.int .i64 1, .int .i64 1, .int .i64 0, .int .i64 0, .int .i64 1, .int .i64 1, .int .i64 260, .int .i64 260] 35 (0, 0))) (.cells #[.int .i64 65535, .int .i64 32, .int .i64 32, .int .i64 1048576, .int .i64 1000, .int .i64 5000, .int .i64 65536, .int .i64 65536] 35 (0, 0))) hb)
  have B2 := Lib.hid (below_then ((B1.out.alloc B1.out.size _).alloc (by have := B1.out.size; simp; omega) _) (by have := B1.out.size; simp; omega) hb)
  obtain ⟨gl, hgl⟩ : ∃ gl, gl = w1.heap.size := ⟨_, rfl⟩
  rw [show (w1.alloc (.cells #[.int .i64 1, .int .i64 1, .int .i64 0, .int .i64 0, .int .i64 1, .int .i64 1, .int .i64 260, .int .i64 260] 35 (0, 0))).heap.size = w1.heap.size + 1 by simp] at XM
  rw [← hgl] at XL XM ⊢
  clear hb hk hk8 hgl
  go_wp2_with (fail)
  refine (usual_c _).mono ?_
  rintro e w3 ⟨a0, e0, a1, e1, a2, e2, rfl, hC, hb⟩
  have U3 := Lib.hid hC
  have B3 := Lib.hid (below_then B2.out B2.out.size hb)
  have XL3 := Lib.hid (blk_below XL.out hb)
  have XM3 := Lib.hid (blk_below XM.out hb)
  clear hC hb XL XM B2
  go_wp2_with (fail)
  refine (usual_c _).mono ?_
  rintro e w4 ⟨b0, f0, b1, f1, b2, f2, rfl, hC, hb⟩
  have V4 := Lib.hid hC
  have U4 := Lib.hid (show Kd.C k46 w4 a0 4 umap ∧ 4 ≤ e0 ∧ Kd.C k48 w4 a1 0 [] ∧ Kd.C k50 w4 a2 3 uobj ∧ 3 ≤ e2 from ⟨Kd.C_below U3.out.1 hb, U3.out.2.1, Kd.C_below U3.out.2.2.1 hb, Kd.C_below U3.out.2.2.2.1 hb, U3.out.2.2.2.2⟩)
  have B4 := Lib.hid (below_then B3.out B3.out.size hb)
  have XL4 := Lib.hid (blk_below XL3.out hb)
  have XM4 := Lib.hid (blk_below XM3.out hb)
  clear hC hb XL3 XM3 B3 U3
  go_wp2_with (fail)
  have ho : Below w4.heap.size w4 ((w4.alloc (.cells (ucells a0 e0 a1 e1 a2 e2) 27)).alloc (.cells (ucells b0 f0 b1 f1 b2 f2) 27)) := ((Below.refl _ _).alloc (Nat.le_refl _) _).alloc (by simp) _
  have XC := Lib.hid (blk_alloc (blk_new w4 (.cells (ucells a0 e0 a1 e1 a2 e2) 27 (0, 0))) (.cells (ucells b0 f0 b1 f1 b2 f2) 27 (0, 0)))
  have XD := Lib.hid (blk_new (w4.alloc (.cells (ucells a0 e0 a1 e1 a2 e2) 27 (0, 0))) (.cells (ucells b0 f0 b1 f1 b2 f2) 27 (0, 0)))
  have XL5 := Lib.hid (blk_below XL4.out ho)
  have XM5 := Lib.hid (blk_below XM4.out ho)
  have B5 := Lib.hid (below_then B4.out B4.out.size ho)
  have BW := Lib.hid ho
  rw [show (w4.alloc (.cells (ucells a0 e0 a1 e1 a2 e2) 27 (0, 0))).heap.size = w4.heap.size + 1 by simp] at XD
  change Code.wp _ _ _ _ ((w4.alloc (.cells (ucells a0 e0 a1 e1 a2 e2) 27)).alloc (.cells (ucells b0 f0 b1 f1 b2 f2) 27))
  generalize (w4.alloc (.cells (ucells a0 e0 a1 e1 a2 e2) 27)).alloc (.cells (ucells b0 f0 b1 f1 b2 f2) 27) = W5 at *
  have hlow := low_at XL5.out k K8.out
  have p0_ : (0 ≤ k) = True := eq_true K8.out.1
  have q0_ : (k < 8) = True := eq_true K8.out.2
  clear ho
  go_quiet (first | (go_at_call 12; refine Calls.quiet_of (within_calls p2 1000 (by omega) (by omega) _)))
  have BQ := Lib.hid (pw_below_drewN (Below.refl W5.heap.size W5) nq)
  have hmost := most_at (blk_below XM5.out BQ.out) k K8.out
  have N2 := Lib.hid (show 0 ≤ p2 % 1000 ∧ p2 % 1000 < 1000 by omega)
  have NL := Lib.hid (show 0 ≤ lowk k ∧ lowk k ≤ 260 by unfold lowk; repeat (split <;> try omega))
  have LM := Lib.hid (show lowk k ≤ mostk k by unfold lowk mostk; repeat (split <;> try omega))
  have NM := Lib.hid (show 0 ≤ mostk k ∧ mostk k ≤ 1048576 by unfold mostk; repeat (split <;> try omega))
  rw [show wrap64 (wrap64 (lowk k - 1) - p2 % 1000) = lowk k - 1 - p2 % 1000 by
    have h1 := N2.out
    have h2 := NL.out
    rw [wrap64_id (x := lowk k - 1) (by omega) (by omega), wrap64_id (by omega) (by omega)]]
  generalize W5.drewN nq = W6 at *
  clear hlow
  go_upto_if 32 with (fail)
  go_cut [12, 13] (fun v12 v13 wc => ∃ x y : Int, v12 = .int .i64 x ∧ v13 = .int .i64 y ∧ Aside0 (lowk k ≤ x ∧ x ≤ mostk k ∧ (y < lowk k ∨ mostk k < y)) ∧ Aside0 (Below W5.heap.size W5 wc))
  case first =>
    cases high
    · go_wp2
      go_meet
      exact ⟨_, _, rfl, rfl, ⟨Int.le_refl _, LM.out, Or.inl (by have := N2.out; omega)⟩, ⟨BQ.out⟩⟩
    · have hw1 : wrap64 (wrap64 (mostk k + 1) + p2 % 1000) = mostk k + 1 + p2 % 1000 := by
        have h1 := N2.out
        have h2 := NM.out
        rw [wrap64_id (x := mostk k + 1) (by omega) (by omega), wrap64_id (by omega) (by omega)]
      have HW := Lib.hid hw1
      clear hw1
      go_wp2_with (fail)
      go_quiet (first | (go_at_call 12; refine Calls.quiet_of (within_calls p2 1000 (by omega) (by omega) _)))
      rw [HW.out]
      go_wp2
      go_meet
      exact ⟨_, _, rfl, rfl, ⟨LM.out, Int.le_refl _, Or.inr (by have := N2.out; omega)⟩, ⟨pw_below_drewN BQ.out _⟩⟩
  case rest =>
  obtain ⟨x, y, rfl, rfl, HXY, HB⟩ := hcut
  have XC7 := Lib.hid (blk_below XC.out HB.out)
  have XD7 := Lib.hid (blk_below XD.out HB.out)
  go_wp2_with (fail)
  refine (set_c k K8.out x _ _ (ucells a0 e0 a1 e1 a2 e2) rfl XC7.out).mono ?_
  rintro e w8 ⟨rfl, rfl⟩
  have XD8 := Lib.hid (blk_far XD7.out (p := ⟨w4.heap.size, 3 + k.toNat, none⟩) (by show w4.heap.size + 1 ≠ w4.heap.size; omega) (.int .i64 x))
  have XC8 := Lib.hid (blk_set XC7.out (3 + k.toNat) (.int .i64 x))
  go_wp2_with (fail)
  refine (set_c k K8.out y _ _ (ucells b0 f0 b1 f1 b2 f2) rfl XD8.out).mono ?_
  rintro e w9 ⟨rfl, rfl⟩
  have XC9 := Lib.hid (blk_far XC8.out (p := ⟨w4.heap.size + 1, 3 + k.toNat, none⟩) (by show w4.heap.size ≠ w4.heap.size + 1; omega) (.int .i64 y))
  have XD9 := Lib.hid (blk_set XD8.out (3 + k.toNat) (.int .i64 y))
  have B9 := Lib.hid (show Below w4.heap.size w4 ((wc.setCell ⟨w4.heap.size, 3 + k.toNat, none⟩ (.int .i64 x)).setCell ⟨w4.heap.size + 1, 3 + k.toNat, none⟩ (.int .i64 y)) from by
    have h1 := below_then BW.out BW.out.size HB.out
    exact (h1.setCell (by show w4.heap.size ≤ w4.heap.size; omega) _).setCell (by show w4.heap.size ≤ w4.heap.size + 1; omega) _)
  generalize (wc.setCell ⟨w4.heap.size, 3 + k.toNat, none⟩ (.int .i64 x)).setCell ⟨w4.heap.size + 1, 3 + k.toNat, none⟩ (.int .i64 y) = W9 at *
  clear XC7 XD7 XC8 XD8 XC XD XL4 XM4 XL5 XM5 hmost
  obtain ⟨z3, z4, z5, z6, z7, z8, z9, z10, hz, hzr⟩ := conf_cells a0 e0 a1 e1 a2 e2 k K8.out x
  obtain ⟨y3, y4, y5, y6, y7, y8, y9, y10, hy, hyr⟩ := conf_cells b0 f0 b1 f1 b2 f2 k K8.out y
  have hc := XC9.out
  rw [hz] at hc
  have hd := XD9.out
  rw [hy] at hd
  have XC10 := Lib.hid hc
  have XD10 := Lib.hid hd
  have CR := Lib.hid (show (0 : Int) = if InR z3 z4 z5 z6 z7 z8 z9 z10 then 0 else 1 by rw [if_pos (hzr.1 ⟨HXY.out.1, HXY.out.2.1⟩)])
  have DR := Lib.hid (show (1 : Int) = if InR y3 y4 y5 y6 y7 y8 y9 y10 then 0 else 1 by rw [if_neg (fun h => by have h1 := hyr.2 h; have := HXY.out.2.2; omega)])
  obtain ⟨q0, q1, q2, q3, q4, q5, q6, q7, q8, q9, q10, q11, q12⟩ := blkc13 hc
  clear hz hzr hy hyr hc hd XC9 XD9
  go_wp2_with (fail)
  refine (check_c _ a0 e0 a1 e1 a2 e2 z3 z4 z5 z6 z7 z8 z9 z10 ⟨Kd.C_below U4.out.1 B9.out, U4.out.2.1, Kd.C_below U4.out.2.2.1 B9.out, Kd.C_below U4.out.2.2.2.1 B9.out, U4.out.2.2.2.2⟩ 0 CR.out).mono ?_
  rintro e w10 ⟨rfl, hb⟩
  have B10 := Lib.hid (below_then B9.out B9.out.size hb)
  have XD11 := Lib.hid (blk_below XD10.out hb)
  obtain ⟨r0, r1, r2, r3, r4, r5, r6, r7, r8, r9, r10, r11, r12⟩ := blkc13 XD11.out
  clear hb q0 q1 q2 q3 q4 q5 q6 q7 q8 q9 q10 q11 q12
  go_wp2_with (fail)
  refine (check_c _ b0 f0 b1 f1 b2 f2 y3 y4 y5 y6 y7 y8 y9 y10 ⟨Kd.C_below V4.out.1 B10.out, V4.out.2.1, Kd.C_below V4.out.2.2.1 B10.out, Kd.C_below V4.out.2.2.2.1 B10.out, V4.out.2.2.2.2⟩ 1 DR.out).mono ?_
  rintro e w11 ⟨rfl, hb⟩
  have B11 := Lib.hid (below_then B4.out B4.out.size (below_then B10.out B10.out.size hb))
  clear hb
  go_wp2
  go_ret
  exact ⟨rfl, B11.out⟩
end Go.Proofs.Ytjlbgopgeepiaaa.Conf
namespace Go.Proofs.Ytjlbgopgeepiaaa.PConf
open Go.RowKit Go.Proofs.YtjlbgopgeepiaaaW.PrintWords Go.Proofs.YtjlbgopgeepiaaaW.PrintLast Go.Proofs.YtjlbgopgeepiaaaW.PrintMore
attribute [local go_sem] max2_int min2_int max_two min_two max_three min_three max_four min_four plus_setCell_drewN plus_cell_same   -- for this text's walks alone
set_option linter.unusedVariables false
set_option linter.unusedSimpArgs false
def busbarlaw15_ConfBounds.f (a0 : Int) (a1 : Bool) (a2 : Int) : Option Bool := some true
theorem busbarlaw15_ConfBounds.calls (a0 : Int) (a1 : Bool) (a2 : Int) (r : Bool) (w : World) (h : busbarlaw15_ConfBounds.f a0 a1 a2 = some r) : Calls Try.prog 4 #[.int .i64 a0, .bool a1, .int .i64 a2] w fun e w' => e = .returned (.bool r) ∧ Below w.heap.size w w' := by
 obtain rfl := Option.some.inj h
 exact Go.Proofs.Ytjlbgopgeepiaaa.Conf.ConfBounds_calls a0 a1 a2 w
def busbarlaw15_ConfBounds.Pure : Prop := ∀ (a0 : Int) (a1 : Bool) (a2 : Int), (Lit.int .i64 a0).wf = true → (Lit.int .i64 a2).wf = true → busbarlaw15_ConfBounds.f a0 a1 a2 = some true
theorem busbarlaw15_ConfBounds.walk (P : busbarlaw15_ConfBounds.Pure) (a0 : Int) (a1 : Bool) (a2 : Int) (w : World) (w0 : (Lit.int .i64 a0).wf = true) (w2 : (Lit.int .i64 a2).wf = true) :
  Calls Try.prog 4 #[.int .i64 a0, .bool a1, .int .i64 a2] w fun e w' => e = .returned (.bool true) ∧ Below w.heap.size w w' := by
 have h := P a0 a1 a2 w0 w2
 refine (busbarlaw15_ConfBounds.calls a0 a1 a2 true w h).mono ?_
 rintro e w' ⟨rfl, hd⟩
 exact ⟨rfl, hd⟩
end Go.Proofs.Ytjlbgopgeepiaaa.PConf
namespace Go.Proofs.Ytjlbgopgeepiaaa.Pure
open Go.RowKit Go.Proofs.Ytjlbgopgeepiaaa.PConf
theorem ConfBounds : busbarlaw15_ConfBounds.Pure := by
  unfold busbarlaw15_ConfBounds.Pure
  intros
  rfl
end Go.Proofs.Ytjlbgopgeepiaaa.Pure
