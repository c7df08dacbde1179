/- What span's other functions and the document's answer (group GroupC). -/
import Derived.Test.YtmbkbpaoiilicaaLemSpanFnGroupC
import Derived.Test.YtmbkbpaoiilicaaPGroupCx0
import Derived.Test.YtmbkbpaoiilicaaPGroupCx10
import Derived.Test.YtmbkbpaoiilicaaPGroupCx11
import Derived.Test.YtmbkbpaoiilicaaPGroupCx12
import Derived.Test.YtmbkbpaoiilicaaPGroupCx8
set_option linter.unusedVariables false
set_option linter.unusedSimpArgs false
namespace Go.Proofs.Ytmbkbpaoiilicaa.LemSpanFmGroupC
open Go.RowKit Go.Proofs.Ytmbkbpaoiilicaa.PGroupC Go.Proofs.YtmbkbpaoiilicaaW.PrintWords Go.Proofs.YtmbkbpaoiilicaaW.PrintLast Go.Proofs.YtmbkbpaoiilicaaW.PrintMore Go.Proofs.Ytmbkbpaoiilicaa.Num Go.Proofs.Ytmbkbpaoiilicaa.LemSpanGroupC Go.Proofs.Ytmbkbpaoiilicaa.LemWithinGroupC Go.Proofs.Ytmbkbpaoiilicaa.LemSpanFnGroupC


theorem idx (pre rest : List S) (x : S) : ((pre ++ x :: rest).length : Int) = (pre.length : Int) + rest.length + 1 := by rw [List.length_append, List.length_cons]; omega
theorem nxt (pre : List S) (x : S) (h : pre.length ≤ 100000) : wrap64 ((pre.length : Int) + 1) = ((pre ++ [x]).length : Int) := by
  rw [wrap64_id (by omega) (by omega), List.length_append]; rfl
theorem refadd_step (k : Nat) (A B pre rest : List S) (x s : S) (hp : pre.length + rest.length ≤ 100000) (hA : A.length ≤ 100000) (hB : B.length ≤ 100000) (hx : Rt x) (hs : Rt s) :
    busbarref12_Add.l0 (k + 2) (pre ++ x :: rest) A B (pre.length : Int) s.f0 s.f1 s.f2 =
      if Ah x s then busbarref12_Add.l0 k (pre ++ x :: rest) (A ++ [x]) B ((pre ++ [x]).length : Int) s.f0 s.f1 s.f2
      else if Ah s x then busbarref12_Add.l0 k (pre ++ x :: rest) A (B ++ [x]) ((pre ++ [x]).length : Int) s.f0 s.f1 s.f2
      else busbarref12_Add.l0 k (pre ++ x :: rest) A B ((pre ++ [x]).length : Int) (mg s x).f0 (mg s x).f1 (mg s x).f2 := by
  have hl := idx pre rest x
  have hw := nxt pre x (by omega)
  have j1t : busbarref12_Add.j1 (k + 1) (pre ++ x :: rest) A B (pre.length : Int) true s.f0 s.f1 s.f2 x.f0 x.f1 x.f2 = busbarref12_Add.l0 k (pre ++ x :: rest) (A ++ [x]) B ((pre ++ [x]).length : Int) s.f0 s.f1 s.f2 := by
    rw [busbarref12_Add.j1, if_pos rfl, if_pos (by omega), hw]
  have j1f : ¬ Ah x s → busbarref12_Add.j1 (k + 1) (pre ++ x :: rest) A B (pre.length : Int) false s.f0 s.f1 s.f2 x.f0 x.f1 x.f2 = (if Ah s x then busbarref12_Add.l0 k (pre ++ x :: rest) A (B ++ [x]) ((pre ++ [x]).length : Int) s.f0 s.f1 s.f2
      else busbarref12_Add.l0 k (pre ++ x :: rest) A B ((pre ++ [x]).length : Int) (mg s x).f0 (mg s x).f1 (mg s x).f2) := by
    intro hn
    rw [busbarref12_Add.j1, if_neg (by decide), hw]
    by_cases h1 : x.f0 > s.f0
    · rw [if_pos h1, if_pos (by omega), if_pos (show Ah s x from .inl (by omega))]
    · rw [if_neg h1]
      have he : s.f0 = x.f0 := by unfold Ah at hn; omega
      by_cases h2 : x.f1 > s.f2
      · rw [if_pos h2, if_pos (by omega), if_pos (show Ah s x from .inr ⟨he, by omega⟩)]
      · rw [if_neg h2, if_neg (show ¬ Ah s x by unfold Ah; omega)]
        rfl
  rw [busbarref12_Add.l0, if_pos (by omega), if_pos (by omega), rdS]
  by_cases h1 : x.f0 < s.f0
  · rw [if_pos h1, j1t, if_pos (show Ah x s from .inl h1)]
  · rw [if_neg h1]
    by_cases h2 : x.f0 = s.f0
    · rw [if_pos h2]
      by_cases h3 : x.f2 < s.f1
      · rw [decide_eq_true h3, j1t, if_pos (show Ah x s from .inr ⟨h2, h3⟩)]
      · have hn : ¬ Ah x s := by unfold Ah; omega
        rw [decide_eq_false h3, j1f hn, if_neg hn]
    · have hn : ¬ Ah x s := by unfold Ah; omega
      rw [if_neg h2, j1f hn, if_neg hn]
theorem refadd_behind (A : List S) (s : S) (hs : Rt s) : ∀ (rest B pre : List S) (k : Nat), (∀ x ∈ rest, Rt x ∧ Ah s x ∧ ¬ Ah x s) → pre.length + rest.length ≤ 100000 → A.length + B.length + rest.length ≤ 100000 → 2 * rest.length < k →
    busbarref12_Add.l0 k (pre ++ rest) A B (pre.length : Int) s.f0 s.f1 s.f2 = some (A ++ s :: (B ++ rest))
  | [], B, pre, k, _, _, hl, hk => by
    obtain ⟨k, rfl⟩ : ∃ m, k = m + 1 := ⟨k - 1, by omega⟩
    rw [List.append_nil, List.append_nil, busbarref12_Add.l0, if_neg (by omega), if_pos (by omega), Option.bind_some, if_pos (by rw [List.length_append]; simp at hl ⊢; omega), List.append_assoc]
    rfl
  | x :: rest, B, pre, k, hx, hp, hl, hk => by
    rw [List.length_cons] at hp hl hk
    obtain ⟨k, rfl⟩ : ∃ m, k = m + 2 := ⟨k - 2, by omega⟩
    have h := hx x (by simp)
    rw [refadd_step k A B pre rest x s (by omega) (by omega) (by omega) h.1 hs, if_neg h.2.2, if_pos h.2.1]
    have ih := refadd_behind A s hs rest (B ++ [x]) (pre ++ [x]) k (fun y hy => hx y (by simp [hy])) (by simp; omega) (by simp; omega) (by omega)
    rw [List.append_assoc pre, List.append_assoc B] at ih
    exact ih
theorem refadd_loop : ∀ (rest A pre : List S) (s : S) (k : Nat), Cn rest → Rt s → pre.length + rest.length ≤ 100000 → A.length + rest.length ≤ 100000 → 2 * rest.length < k →
    busbarref12_Add.l0 k (pre ++ rest) A [] (pre.length : Int) s.f0 s.f1 s.f2 = some (A ++ add rest s)
  | [], A, pre, s, k, _, hr, hp, hl, hk => by
    have h := refadd_behind A s hr [] [] pre k (by simp) hp (by simpa using hl) hk
    simp only [List.append_nil] at h ⊢
    exact h
  | x :: rest, A, pre, s, k, hc, hr, hp, hl, hk => by
    have hp' := hp
    have hl' := hl
    rw [List.length_cons] at hp hl hk
    by_cases h1 : Ah x s
    · obtain ⟨k, rfl⟩ : ∃ m, k = m + 2 := ⟨k - 2, by omega⟩
      rw [refadd_step k A [] pre rest x s (by omega) (by omega) (by simp) hc.1 hr, if_pos h1]
      have ih := refadd_loop rest (A ++ [x]) (pre ++ [x]) s k hc.2.2 hr (by simp; omega) (by simp; omega) (by omega)
      rw [List.append_assoc pre, List.append_assoc A [x]] at ih
      unfold add
      rw [if_pos h1]
      exact ih
    · by_cases h2 : Ah s x
      · have h := refadd_behind A s hr (x :: rest) [] pre k (fun y hy => by
          rcases List.mem_cons.1 hy with rfl | hy
          · exact ⟨hc.1, h2, h1⟩
          · have := Ah_trans hc.1 h2 (hc.2.1 y hy)
            exact ⟨can_rt hc.2.2 y hy, this, Ah_asym hr (can_rt hc.2.2 y hy) this⟩) hp' (by simpa using hl') (by simp; omega)
        unfold add
        rw [if_neg h1, if_pos h2]
        exact h
      · obtain ⟨k, rfl⟩ : ∃ m, k = m + 2 := ⟨k - 2, by omega⟩
        rw [refadd_step k A [] pre rest x s (by omega) (by omega) (by simp) hc.1 hr, if_neg h1, if_neg h2]
        have ih := refadd_loop rest A (pre ++ [x]) (mg s x) k hc.2.2 (mg_rt hr hc.1 h1 h2) (by simp; omega) (by omega) (by omega)
        rw [List.append_assoc pre] at ih
        unfold add
        rw [if_neg h1, if_neg h2]
        exact ih
theorem refadd_eq (l : List S) (a b c : Int) (hc : Cn l) (hr : Rt ⟨a, b, c⟩) (hl : l.length ≤ 100000) {k : Nat} (hk : 2 * l.length < k) : busbarref12_Add.f k l a b c = some (add l ⟨a, b, c⟩) :=
  refadd_loop l [] [] ⟨a, b, c⟩ k hc hr (by simpa using hl) (by simpa using hl) hk
theorem refadd_s (l : List S) (s : S) (hc : Cn l) (hr : Rt s) (hl : l.length ≤ 100000) {k : Nat} (hk : 2 * l.length < k) : busbarref12_Add.f k l s.f0 s.f1 s.f2 = some (add l s) :=
  refadd_loop l [] [] s k hc hr (by simpa using hl) (by simpa using hl) hk
/-- A right span by a number. -/
def spanOf (n : Int) : S :=
  let d1 := Int.tdiv n 4 % 40; let d2 := Int.tdiv n 160 % 12; let d3 := Int.tdiv n 1920 % 16
  if d3 = 0 then ⟨n % 4, 65496 + d1, mn (65496 + d1 + (1 + d2)) 65536⟩ else if d3 = 1 then ⟨n % 4, d1, mn (d1 + (1 + 100 * d2)) 65536⟩ else ⟨n % 4, d1, mn (d1 + (1 + d2)) 65536⟩
theorem digit_eq (n d m : Int) (hn : -9223372036854775808 ≤ n ∧ n < 9223372036854775808) (hd : 2 ≤ d) (hm : 0 < m) (hm2 : m < 4611686018427387904) : busbarlaw0_Digit.f n d m = some (Int.tdiv n d % m) := by
  unfold busbarlaw0_Digit.f
  have h : -9223372036854775808 ≤ Int.tdiv n d ∧ Int.tdiv n d < 9223372036854775808 := by
    have h3 : (Int.natAbs (Int.tdiv n d)) ≤ Int.natAbs n / 2 := by rw [Int.natAbs_tdiv]; exact Nat.div_le_div_left (by omega) (by omega)
    omega
  rw [if_neg (by omega), wrap64_id h.1 h.2, within_eq _ m hm hm2]
  rfl
theorem span_eq (n : Int) (hn : -9223372036854775808 ≤ n ∧ n < 9223372036854775808) : busbarlaw0_Span.f n = some ((spanOf n).f0, (spanOf n).f1, (spanOf n).f2) := by
  have e1 := Int.emod_nonneg (Int.tdiv n 4) (show (40 : Int) ≠ 0 by omega)
  have e2 := Int.emod_lt_of_pos (Int.tdiv n 4) (show (0 : Int) < 40 by omega)
  have e3 := Int.emod_nonneg (Int.tdiv n 160) (show (12 : Int) ≠ 0 by omega)
  have e4 := Int.emod_lt_of_pos (Int.tdiv n 160) (show (0 : Int) < 12 by omega)
  unfold busbarlaw0_Span.f spanOf
  rw [within_eq n 4 (by omega) (by omega), Option.bind_some, digit_eq n 4 40 hn (by omega) (by omega) (by omega), Option.bind_some, digit_eq n 160 12 hn (by omega) (by omega) (by omega), Option.bind_some, digit_eq n 1920 16 hn (by omega) (by omega) (by omega), Option.bind_some]
  dsimp only
  generalize Int.tdiv n 4 % 40 = d1 at *
  generalize Int.tdiv n 160 % 12 = d2 at *
  generalize Int.tdiv n 1920 % 16 = d3 at *
  by_cases h0 : d3 = 0
  · rw [if_pos h0, if_pos h0, wrap64_id (x := 65496 + d1) (by omega) (by omega), wrap64_id (x := 1 + d2) (by omega) (by omega), wrap64_id (by omega) (by omega)]
  · rw [if_neg h0, if_neg h0]
    by_cases h1 : d3 = 1
    · rw [if_pos h1, if_pos h1, Option.bind_some, wrap64_id (x := 100 * d2) (by omega) (by omega), wrap64_id (x := 1 + 100 * d2) (by omega) (by omega), wrap64_id (by omega) (by omega)]
    · rw [if_neg h1, if_neg h1, wrap64_id (x := 1 + d2) (by omega) (by omega), wrap64_id (by omega) (by omega)]
theorem span_rt (n : Int) : Rt (spanOf n) := by
  have e1 := Int.emod_nonneg (Int.tdiv n 4) (show (40 : Int) ≠ 0 by omega)
  have e2 := Int.emod_lt_of_pos (Int.tdiv n 4) (show (0 : Int) < 40 by omega)
  have e3 := Int.emod_nonneg (Int.tdiv n 160) (show (12 : Int) ≠ 0 by omega)
  have e4 := Int.emod_lt_of_pos (Int.tdiv n 160) (show (0 : Int) < 12 by omega)
  unfold spanOf
  dsimp only
  generalize Int.tdiv n 4 % 40 = d1 at *
  generalize Int.tdiv n 160 % 12 = d2 at *
  generalize Int.tdiv n 1920 % 16 = d3 at *
  unfold Rt mn
  (repeat' split) <;> dsimp only <;> (repeat' split) <;> omega
theorem span_i64 (n : Int) : -9223372036854775808 ≤ (spanOf n).f1 ∧ (spanOf n).f2 ≤ 65536 := by
  have := span_rt n; unfold Rt at this; omega
/-- A canonical list by numbers: of the first twenty. -/
def spansOf (ks : List Int) : List S := (ks.take 20).foldl (fun l k => add l (spanOf k)) []
theorem foldl_can : ∀ (ks : List Int) (l : List S), Cn l → Cn (ks.foldl (fun l k => add l (spanOf k)) l)
  | [], _, h => h
  | k :: ks, l, h => foldl_can ks _ (add_can l _ h (span_rt k))
theorem foldl_len : ∀ (ks : List Int) (l : List S), (ks.foldl (fun l k => add l (spanOf k)) l).length ≤ l.length + ks.length
  | [], l => by simp
  | k :: ks, l => by
    have h1 := foldl_len ks (add l (spanOf k))
    have h2 := add_length l (spanOf k)
    simp only [List.foldl_cons, List.length_cons]; omega
theorem spans_can (ks : List Int) : Cn (spansOf ks) := foldl_can _ _ trivial
theorem spans_len (ks : List Int) : (spansOf ks).length ≤ 20 := by
  have := foldl_len (ks.take 20) []
  unfold spansOf
  simp at this ⊢; omega
theorem spans_loop (ks : List Int) (hk : ∀ x ∈ ks, -9223372036854775808 ≤ x ∧ x < 9223372036854775808) (hlen : ks.length ≤ 9223372036854775807) : ∀ (d i k : Nat) (l : List S), i + d = min ks.length 20 → Cn l → l.length ≤ i → 2 * d + 50 ≤ k →
    busbarlaw0_Spans.l0 k ks l (i : Int) = some (((ks.take 20).drop i).foldl (fun l k => add l (spanOf k)) l)
  | 0, i, k, l, hi, hc, hl, hk' => by
    obtain ⟨k, rfl⟩ : ∃ m, k = m + 2 := ⟨k - 2, by omega⟩
    have hd : (ks.take 20).drop i = [] := List.drop_eq_nil_of_le (by rw [List.length_take]; omega)
    rw [hd, busbarlaw0_Spans.l0]
    by_cases h : (i : Int) < (ks.length : Int)
    · rw [if_pos h, decide_eq_false (by omega), busbarlaw0_Spans.j1, if_neg (by decide)]
      rfl
    · rw [if_neg h, busbarlaw0_Spans.j1, if_neg (by decide)]
      rfl
  | d + 1, i, k, l, hi, hc, hl, hk' => by
    obtain ⟨k, rfl⟩ : ∃ m, k = m + 2 := ⟨k - 2, by omega⟩
    have hil : i < ks.length := by omega
    have hd : (ks.take 20).drop i = ks[i] :: (ks.take 20).drop (i + 1) := by
      rw [List.drop_eq_getElem_cons (by rw [List.length_take]; omega), List.getElem_take]
    have hx := hk ks[i] (List.getElem_mem _)
    rw [hd, busbarlaw0_Spans.l0, if_pos (by omega), decide_eq_true (by omega), busbarlaw0_Spans.j1, if_pos rfl, if_pos (by omega), if_pos (by omega), rd_get ks i hil, span_eq _ hx, Option.bind_some, refadd_s l (spanOf ks[i]) hc (span_rt _) (by omega) (by omega), Option.bind_some, wrap64_id (by omega) (by omega), show ((i : Int) + 1) = ((i + 1 : Nat) : Int) by omega]
    exact spans_loop ks hk hlen d (i + 1) k (add l (spanOf ks[i])) (by omega) (add_can l _ hc (span_rt _)) (by have := add_length l (spanOf ks[i]); omega) (by omega)
theorem spans_eq (ks : List Int) (hk : ∀ x ∈ ks, -9223372036854775808 ≤ x ∧ x < 9223372036854775808) (hlen : ks.length ≤ 9223372036854775807) {k : Nat} (h : 90 ≤ k) : busbarlaw0_Spans.f k ks = some (spansOf ks) :=
  spans_loop ks hk hlen (min ks.length 20) 0 k [] (by omega) trivial (by simp) (by omega)
end Go.Proofs.Ytmbkbpaoiilicaa.LemSpanFmGroupC
