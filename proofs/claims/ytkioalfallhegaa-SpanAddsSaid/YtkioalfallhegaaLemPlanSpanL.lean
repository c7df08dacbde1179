/- Where a span is, and what is amiss with a map (group SpanL). -/
import Derived.Test.YtkioalfallhegaaPSpanLx0
import Derived.Test.YtkioalfallhegaaPSpanLx16
import Derived.Test.YtkioalfallhegaaLemSpanFpSpanL
set_option linter.unusedVariables false
set_option linter.unusedSimpArgs false
namespace Go.Proofs.Ytkioalfallhegaa.LemPlanSpanL
open Go.RowKit Go.Proofs.Ytkioalfallhegaa.PSpanL Go.Proofs.YtkioalfallhegaaW.PrintWords Go.Proofs.YtkioalfallhegaaW.PrintLast Go.Proofs.YtkioalfallhegaaW.PrintMore Go.Proofs.Ytkioalfallhegaa.Num Go.Proofs.Ytkioalfallhegaa.LemSpanSpanL Go.Proofs.Ytkioalfallhegaa.LemWithinSpanL Go.Proofs.Ytkioalfallhegaa.LemSpanFnSpanL Go.Proofs.Ytkioalfallhegaa.LemSpanFmSpanL Go.Proofs.Ytkioalfallhegaa.LemSpanFoSpanL Go.Proofs.Ytkioalfallhegaa.LemSpanFpSpanL

def ctl (w : Int) : S := ⟨2, w, w + 8⟩
def Cov (x s : S) : Prop := x.f0 = s.f0 ∧ x.f1 ≤ s.f1 ∧ s.f2 ≤ x.f2
instance (x s : S) : Decidable (Cov x s) := by unfold Cov; infer_instance
def wh (m : List S) (w : Int) (s : S) : Int := if Rt s then (if Cov (ctl w) s then 2 else if Covers m s then 1 else 0) else 0
theorem covers_one (x s : S) : Covers [x] s ↔ Cov x s := by simp [Covers, Cov]
theorem ctl_rt (w : Int) (h0 : 0 ≤ w) (h1 : w ≤ 65528) : Rt (ctl w) := by unfold Rt ctl; dsimp only; omega
theorem refcut_loop (s : S) (hs : Rt s) : ∀ (rest out pre : List S) (k : Nat), Cn rest → pre.length + rest.length ≤ 100000 → out.length + 2 * rest.length ≤ 300000 → 2 * rest.length < k →
    busbarref12_Cut.l0 k (pre ++ rest) out (pre.length : Int) s.f0 s.f1 s.f2 = some (out ++ cut rest s)
  | [], out, pre, k, _, hp, _, hk => by
    obtain ⟨k, rfl⟩ : ∃ m, k = m + 1 := ⟨k - 1, by omega⟩
    rw [List.append_nil, busbarref12_Cut.l0, if_neg (by omega)]
    simp [cut]
  | x :: rest, out, pre, k, hc, hp, ho, hk => by
    rw [List.length_cons] at hp hk ho
    obtain ⟨k, rfl⟩ : ∃ m, k = m + 2 := ⟨k - 2, by omega⟩
    have hx := hc.1
    have ih : ∀ ys : List S, ys.length ≤ 2 → ys = pieces x s → busbarref12_Cut.l0 k (pre ++ x :: rest) (out ++ ys) (wrap64 ((pre.length : Int) + 1)) s.f0 s.f1 s.f2 = some (out ++ cut (x :: rest) s) := by
      intro ys hy e
      have h := refcut_loop s hs rest (out ++ ys) (pre ++ [x]) k hc.2.2 (by simp; omega) (by simp; omega) (by omega)
      rw [List.append_assoc pre] at h
      rw [nxt pre x (by omega)]
      refine Eq.trans h ?_
      rw [List.append_assoc, e]
      rfl
    have jt : pieces x s = [x] → busbarref12_Cut.j1 (k + 1) (pre ++ x :: rest) out (pre.length : Int) true s.f0 s.f1 s.f2 x.f0 x.f1 x.f2 = some (out ++ cut (x :: rest) s) := by
      intro e
      rw [busbarref12_Cut.j1, if_pos rfl, if_pos (by omega)]
      exact ih [x] (by simp) e.symm
    rw [busbarref12_Cut.l0, if_pos (pos pre rest x), if_pos (by omega), rdS]
    by_cases h1 : x.f0 = s.f0
    · rw [if_pos h1]
      by_cases h2 : x.f2 ≤ s.f1
      · rw [if_pos h2, jt (by unfold pieces; rw [if_neg (by omega)])]
      · rw [if_neg h2]
        by_cases h3 : x.f1 ≥ s.f2
        · rw [decide_eq_true h3, jt (by unfold pieces; rw [if_neg (by omega)])]
        · rw [decide_eq_false h3, busbarref12_Cut.j1, if_neg (by decide)]
          have hp : pieces x s = (if x.f1 < s.f1 then [⟨x.f0, x.f1, s.f1⟩] else []) ++ (if s.f2 < x.f2 then [⟨x.f0, s.f2, x.f2⟩] else []) := by unfold pieces; rw [if_pos ⟨h1, by omega, by omega⟩]
          by_cases h4 : x.f1 < s.f1
          · rw [if_pos h4, if_pos (by omega), Option.bind_some]
            rw [if_pos h4] at hp
            by_cases h5 : s.f2 < x.f2
            · rw [if_pos h5, if_pos (by simp; omega), List.append_assoc]
              rw [if_pos h5] at hp
              exact ih _ (by simp) hp.symm
            · rw [if_neg (by omega)]
              rw [if_neg h5] at hp
              exact ih _ (by simp) hp.symm
          · rw [if_neg h4]
            rw [if_neg h4] at hp
            by_cases h5 : s.f2 < x.f2
            · rw [if_pos h5, if_pos (by omega)]
              rw [if_pos h5] at hp
              exact ih _ (by simp) hp.symm
            · rw [if_neg (by omega)]
              rw [if_neg h5] at hp
              have h := ih [] (by simp) hp.symm
              rw [List.append_nil] at h
              exact h
    · rw [if_neg h1, jt (by unfold pieces; rw [if_neg (by omega)])]
theorem refcut_eq (l : List S) (s : S) (hc : Cn l) (hs : Rt s) (hl : l.length ≤ 100000) {k : Nat} (hk : 2 * l.length < k) : busbarref12_Cut.f k l s.f0 s.f1 s.f2 = some (cut l s) := refcut_loop s hs l [] [] k hc (by simpa using hl) (by simp; omega) hk
end Go.Proofs.Ytkioalfallhegaa.LemPlanSpanL
