/- What span's functions and the document's answer, as plain lists (group SpanL). -/
import Derived.Test.YtkioalfallhegaaPSpanLx0
import Derived.Test.YtkioalfallhegaaPSpanLx2
import Derived.Test.YtkioalfallhegaaPSpanLx3
import Derived.Test.YtkioalfallhegaaPSpanLx4
import Derived.Test.YtkioalfallhegaaLemSpanSpanL
import Derived.Test.YtkioalfallhegaaLemWithinSpanL
set_option linter.unusedVariables false
set_option linter.unusedSimpArgs false
namespace Go.Proofs.Ytkioalfallhegaa.LemSpanFnSpanL
open Go.RowKit Go.Proofs.Ytkioalfallhegaa.PSpanL Go.Proofs.YtkioalfallhegaaW.PrintWords Go.Proofs.YtkioalfallhegaaW.PrintLast Go.Proofs.YtkioalfallhegaaW.PrintMore Go.Proofs.Ytkioalfallhegaa.Num Go.Proofs.Ytkioalfallhegaa.LemSpanSpanL Go.Proofs.Ytkioalfallhegaa.LemWithinSpanL

theorem rdS (pre : List S) (x : S) (rest : List S) : rd_T47 (pre ++ x :: rest) (pre.length : Int) = x := by
  unfold rd_T47
  rw [Int.toNat_natCast, List.getD_eq_getElem?_getD, List.getElem?_append_right (Nat.le_refl _), Nat.sub_self]
  rfl
theorem ahead_eq (x s : S) : span_ahead.f x.f0 x.f1 x.f2 s.f0 s.f1 s.f2 = some (decide (Ah x s)) := by
  unfold span_ahead.f
  by_cases h1 : x.f0 < s.f0
  · rw [if_pos h1, decide_eq_true (show Ah x s from .inl h1)]
  · rw [if_neg h1]
    by_cases h2 : x.f0 = s.f0
    · rw [if_pos h2]
      by_cases h3 : x.f2 < s.f1
      · rw [decide_eq_true h3, decide_eq_true (show Ah x s from .inr ⟨h2, h3⟩)]
      · rw [decide_eq_false h3, decide_eq_false (show ¬ Ah x s by unfold Ah; omega)]
    · rw [if_neg h2, decide_eq_false (show ¬ Ah x s by unfold Ah; omega)]
theorem right_eq (s : S) : span_Right.f s.f0 s.f1 s.f2 = some (decide (Rt s)) := by
  unfold span_Right.f
  by_cases h1 : s.f0 ≥ 0
  · rw [if_pos h1]
    by_cases h2 : s.f0 < 4
    · rw [if_pos h2]
      by_cases h3 : s.f1 ≥ 0
      · rw [if_pos h3]
        by_cases h4 : s.f2 ≤ 65536
        · rw [if_pos h4]
          by_cases h5 : s.f1 < s.f2
          · rw [decide_eq_true h5, decide_eq_true (show Rt s by unfold Rt; omega)]
          · rw [decide_eq_false h5, decide_eq_false (show ¬ Rt s by unfold Rt; omega)]
        · rw [if_neg h4, decide_eq_false (show ¬ Rt s by unfold Rt; omega)]
      · rw [if_neg h3, decide_eq_false (show ¬ Rt s by unfold Rt; omega)]
    · rw [if_neg h2, decide_eq_false (show ¬ Rt s by unfold Rt; omega)]
  · rw [if_neg h1, decide_eq_false (show ¬ Rt s by unfold Rt; omega)]
theorem add_step (k : Nat) (out : List S) (a : Int) (pre rest : List S) (x s : S) (hp : pre.length + rest.length ≤ 100000) (ho : out.length ≤ 100000) :
    span_Add.l0 (k + 1) out a (pre ++ x :: rest) ((pre ++ x :: rest).length : Int) (pre.length : Int) s.f0 s.f1 s.f2 =
      if Ah x s then span_Add.l0 k (out ++ [x]) ((out ++ [x]).length : Int) (pre ++ x :: rest) ((pre ++ x :: rest).length : Int) ((pre ++ [x]).length : Int) s.f0 s.f1 s.f2
      else if Ah s x then span_Add.l0 k (out ++ [x]) a (pre ++ x :: rest) ((pre ++ x :: rest).length : Int) ((pre ++ [x]).length : Int) s.f0 s.f1 s.f2
      else span_Add.l0 k out a (pre ++ x :: rest) ((pre ++ x :: rest).length : Int) ((pre ++ [x]).length : Int) (mg s x).f0 (mg s x).f1 (mg s x).f2 := by
  have hl : (pre ++ x :: rest).length = pre.length + rest.length + 1 := by rw [List.length_append, List.length_cons]; omega
  have hl1 : (pre ++ [x]).length = pre.length + 1 := by rw [List.length_append]; rfl
  have hw : wrap64 ((pre.length : Int) + 1) = ((pre ++ [x]).length : Int) := by rw [wrap64_id (by omega) (by omega), hl1]; omega
  rw [span_Add.l0, if_pos (by omega), if_pos (by omega), if_pos (by omega), rdS, ahead_eq, Option.bind_some, hw]
  by_cases h1 : Ah x s
  · rw [decide_eq_true h1, if_pos rfl, if_pos (by omega), Option.bind_some, if_pos h1]
  · rw [decide_eq_false h1, if_neg (by decide), ahead_eq, Option.bind_some, if_neg h1]
    by_cases h2 : Ah s x
    · rw [decide_eq_true h2, if_pos rfl, if_pos (by omega), if_pos h2]
    · rw [decide_eq_false h2, if_neg (by decide), if_neg h2]
      rfl
theorem set_mid (A B : List S) (h s : S) : (A ++ (h :: B)).set A.length s = A ++ s :: B := by
  rw [List.set_append_right _ _ (Nat.le_refl _), Nat.sub_self]; rfl
theorem final_ins (A B : List S) (s : S) (n : Nat) (hn : n = B.length) : (Kd.laid (A ++ B ++ [s]) (A.length + 1) n ((A ++ B ++ [s]).drop A.length)).set A.length s = A ++ s :: B := by
  subst hn
  have h1 : (A ++ B ++ [s]).drop A.length = B ++ [s] := by rw [List.append_assoc, List.drop_left]
  have h2 : (B ++ [s]).take B.length = B := List.take_left
  have h3 : (A ++ B ++ [s]).drop (A.length + 1 + B.length) = [] := List.drop_eq_nil_of_le (by simp; omega)
  unfold Kd.laid
  rw [h1, h2, h3, List.append_nil]
  cases B with
  | nil =>
    rw [List.append_nil, List.take_of_length_le (by simp), List.append_nil]
    exact set_mid A [] s s
  | cons b B =>
    have h4 : (A ++ b :: B ++ [s]).take (A.length + 1) = A ++ [b] := by
      rw [List.append_assoc, List.take_append, List.take_of_length_le (by omega)]
      simp
    rw [h4, List.append_assoc]
    exact set_mid A (b :: B) b s
theorem add_end (k : Nat) (A B l : List S) (s : S) (hl : A.length + B.length ≤ 100000) :
    span_Add.l0 (k + 1) (A ++ B) (A.length : Int) l (l.length : Int) (l.length : Int) s.f0 s.f1 s.f2 = some (A ++ s :: B) := by
  have hab : (A ++ B).length = A.length + B.length := List.length_append
  rw [span_Add.l0, if_neg (by omega), if_pos (by omega), Option.bind_some]
  obtain ⟨y, hy⟩ : ∃ y, y = A ++ B ++ [(⟨s.f0, s.f1, s.f2⟩ : S47)] := ⟨_, rfl⟩
  have hyl : y.length = A.length + B.length + 1 := by rw [hy, List.length_append, hab]; rfl
  have hw : wrap64 ((A.length : Int) + 1) = (A.length : Int) + 1 := wrap64_id (by omega) (by omega)
  rw [← hy, hw, if_pos (by omega), if_pos (by omega), if_pos (by omega), if_pos (by omega), Option.bind_some, Int.toNat_natCast, show ((A.length : Int) + 1).toNat = A.length + 1 by omega, Option.bind_some]
  have hm : min (y.drop A.length).length (y.drop (A.length + 1)).length = B.length := by rw [List.length_drop, List.length_drop]; omega
  have hf := final_ins A B s B.length rfl
  have hy' : y = A ++ B ++ [s] := hy
  have hlen : (Kd.laid y (A.length + 1) B.length (y.drop A.length)).length = y.length := Kd.laid_length _ _ _ _ (by omega) (by rw [List.length_drop]; omega)
  rw [hm, if_pos (by omega), hy']
  exact congrArg some hf
theorem add_behind (A : List S) (s : S) : ∀ (rest B pre : List S) (k : Nat), (∀ x ∈ rest, Ah s x ∧ ¬ Ah x s) → pre.length + rest.length ≤ 100000 → A.length + B.length + rest.length ≤ 100000 → rest.length < k →
    span_Add.l0 k (A ++ B) (A.length : Int) (pre ++ rest) ((pre ++ rest).length : Int) (pre.length : Int) s.f0 s.f1 s.f2 = some (A ++ s :: (B ++ rest))
  | [], B, pre, k, _, _, hl, hk => by
    obtain ⟨k, rfl⟩ : ∃ m, k = m + 1 := ⟨k - 1, by omega⟩
    have h := add_end k A B (pre ++ []) s (by omega)
    rw [List.append_nil] at h ⊢
    rw [List.append_nil]
    exact h
  | x :: rest, B, pre, k, hx, hp, hl, hk => by
    obtain ⟨k, rfl⟩ : ∃ m, k = m + 1 := ⟨k - 1, by omega⟩
    rw [List.length_cons] at hp hl hk
    rw [add_step k (A ++ B) _ pre rest x s (by omega) (by rw [List.length_append]; omega), if_neg (hx x (by simp)).2, if_pos (hx x (by simp)).1]
    have ih := add_behind A s rest (B ++ [x]) (pre ++ [x]) k (fun y hy => hx y (by simp [hy])) (by simp; omega) (by simp; omega) (by omega)
    rw [← List.append_assoc, List.append_assoc pre, List.append_assoc B] at ih
    exact ih
theorem add_loop : ∀ (rest A pre : List S) (s : S) (k : Nat), Cn rest → Rt s → pre.length + rest.length ≤ 100000 → A.length + rest.length ≤ 100000 → rest.length < k →
    span_Add.l0 k A (A.length : Int) (pre ++ rest) ((pre ++ rest).length : Int) (pre.length : Int) s.f0 s.f1 s.f2 = some (A ++ add rest s)
  | [], A, pre, s, k, _, _, hp, hl, hk => by
    have h := add_behind A s [] [] pre k (by simp) hp (by simpa using hl) hk
    simp only [List.append_nil] at h ⊢
    exact h
  | x :: rest, A, pre, s, k, hc, hr, hp, hl, hk => by
    obtain ⟨k, rfl⟩ : ∃ m, k = m + 1 := ⟨k - 1, by omega⟩
    have hp' := hp
    have hl' := hl
    rw [List.length_cons] at hp hl hk
    by_cases h1 : Ah x s
    · rw [add_step k A _ pre rest x s (by omega) (by omega), if_pos h1]
      have ih := add_loop rest (A ++ [x]) (pre ++ [x]) s k hc.2.2 hr (by simp; omega) (by simp; omega) (by omega)
      rw [List.append_assoc pre, List.append_assoc A [x]] at ih
      unfold add
      rw [if_pos h1]
      exact ih
    · by_cases h2 : Ah s x
      · have h := add_behind A s (x :: rest) [] pre (k + 1) (fun y hy => by
          rcases List.mem_cons.1 hy with rfl | hy
          · exact ⟨h2, h1⟩
          · have := Ah_trans hc.1 h2 (hc.2.1 y hy)
            exact ⟨this, Ah_asym hr (can_rt hc.2.2 y hy) this⟩) hp' (by simpa using hl') (by simp; omega)
        unfold add
        rw [if_neg h1, if_pos h2]
        rw [List.append_nil] at h
        exact h
      · rw [add_step k A _ pre rest x s (by omega) (by omega), if_neg h1, if_neg h2]
        have ih := add_loop rest A (pre ++ [x]) (mg s x) k hc.2.2 (mg_rt hr hc.1 h1 h2) (by simp; omega) (by omega) (by omega)
        rw [List.append_assoc pre] at ih
        unfold add
        rw [if_neg h1, if_neg h2]
        exact ih
theorem add_eq (l : List S) (a b c : Int) (hc : Cn l) (hr : Rt ⟨a, b, c⟩) (hl : l.length ≤ 100000) {k : Nat} (hk : l.length < k) : span_Add.f k l a b c = some (add l ⟨a, b, c⟩) := by
  unfold span_Add.f
  rw [wrap64_id (by omega) (by omega), if_pos (by omega), if_pos (by omega)]
  exact add_loop l [] [] ⟨a, b, c⟩ k hc hr (by simpa using hl) (by simpa using hl) hk
end Go.Proofs.Ytkioalfallhegaa.LemSpanFnSpanL
