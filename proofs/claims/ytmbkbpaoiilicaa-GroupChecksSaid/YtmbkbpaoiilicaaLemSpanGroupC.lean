/- Rows of addresses as plain lists (group GroupC, the span's struct S32): right, canonical, added, taken away; no program in sight. -/
import Derived.Test.YtmbkbpaoiilicaaPGroupCx0
import Derived.Test.YtmbkbpaoiilicaaNum
set_option linter.unusedVariables false
set_option linter.unusedSimpArgs false
namespace Go.Proofs.Ytmbkbpaoiilicaa.LemSpanGroupC
open Go.RowKit Go.Proofs.Ytmbkbpaoiilicaa.PGroupC Go.Proofs.YtmbkbpaoiilicaaW.PrintWords Go.Proofs.YtmbkbpaoiilicaaW.PrintLast Go.Proofs.YtmbkbpaoiilicaaW.PrintMore Go.Proofs.Ytmbkbpaoiilicaa.Num

abbrev S := S32
def Rt (s : S) : Prop := 0 ≤ s.f0 ∧ s.f0 < 4 ∧ 0 ≤ s.f1 ∧ s.f2 ≤ 65536 ∧ s.f1 < s.f2
instance (s : S) : Decidable (Rt s) := by unfold Rt; infer_instance
def Ah (a b : S) : Prop := a.f0 < b.f0 ∨ (a.f0 = b.f0 ∧ a.f2 < b.f1)
instance (a b : S) : Decidable (Ah a b) := by unfold Ah; infer_instance
def Cn : List S → Prop
  | [] => True
  | x :: l => Rt x ∧ (∀ y ∈ l, Ah x y) ∧ Cn l
/-- Two spans that touch, as one. -/
def mg (s x : S) : S := ⟨s.f0, mn s.f1 x.f1, mx s.f2 x.f2⟩
def add : List S → S → List S
  | [], s => [s]
  | x :: l, s => if Ah x s then x :: add l s else if Ah s x then s :: x :: l else add l (mg s x)
/-- What of x is not in s. -/
def pieces (x s : S) : List S :=
  if x.f0 = s.f0 ∧ s.f1 < x.f2 ∧ x.f1 < s.f2 then (if x.f1 < s.f1 then [⟨x.f0, x.f1, s.f1⟩] else []) ++ (if s.f2 < x.f2 then [⟨x.f0, s.f2, x.f2⟩] else []) else [x]
def cut (l : List S) (s : S) : List S := l.flatMap fun x => pieces x s
def In (x : S) (t p : Int) : Prop := x.f0 = t ∧ x.f1 ≤ p ∧ p < x.f2
instance (x : S) (t p : Int) : Decidable (In x t p) := by unfold In; infer_instance
def Has (l : List S) (t p : Int) : Prop := ∃ x ∈ l, In x t p

theorem Ah_trans {a b c : S} (hb : Rt b) (h : Ah a b) (k : Ah b c) : Ah a c := by
  unfold Ah Rt at *; omega
theorem Ah_asym {a b : S} (ha : Rt a) (hb : Rt b) (h : Ah a b) : ¬ Ah b a := by
  unfold Ah Rt at *; omega
theorem mg_rt {s x : S} (hs : Rt s) (hx : Rt x) (h1 : ¬ Ah x s) (h2 : ¬ Ah s x) : Rt (mg s x) := by
  unfold Rt Ah mg mn mx at *
  dsimp only
  split <;> split <;> omega
theorem mg_same {s x : S} (h1 : ¬ Ah x s) (h2 : ¬ Ah s x) : s.f0 = x.f0 ∧ s.f1 ≤ x.f2 ∧ x.f1 ≤ s.f2 := by
  unfold Ah at *; omega
theorem mg_in {s x : S} (hs : Rt s) (hx : Rt x) (h1 : ¬ Ah x s) (h2 : ¬ Ah s x) (t p : Int) : In (mg s x) t p ↔ In s t p ∨ In x t p := by
  have := mg_same h1 h2
  unfold Rt at *
  unfold In mg mn mx
  dsimp only
  split <;> split <;> omega
theorem has_nil (t p : Int) : ¬ Has [] t p := by simp [Has]
theorem has_cons (x : S) (l : List S) (t p : Int) : Has (x :: l) t p ↔ In x t p ∨ Has l t p := by simp [Has]
theorem has_append (l m : List S) (t p : Int) : Has (l ++ m) t p ↔ Has l t p ∨ Has m t p := by
  simp only [Has, List.mem_append]
  constructor
  · rintro ⟨x, hx | hx, h⟩
    · exact .inl ⟨x, hx, h⟩
    · exact .inr ⟨x, hx, h⟩
  · rintro (⟨x, hx, h⟩ | ⟨x, hx, h⟩)
    · exact ⟨x, .inl hx, h⟩
    · exact ⟨x, .inr hx, h⟩
/-- What stands ahead of s and of l's elements stands ahead of all of add l s. -/
theorem add_ahead (x : S) : ∀ (l : List S) (s : S), Cn l → Rt s → Ah x s → (∀ y ∈ l, Ah x y) → ∀ y ∈ add l s, Ah x y
  | [], s, _, _, hs, _, y, hy => by simp [add] at hy; subst hy; exact hs
  | z :: l, s, hc, hr, hs, hl, y, hy => by
    unfold add at hy
    by_cases h1 : Ah z s
    · rw [if_pos h1] at hy
      rcases List.mem_cons.1 hy with rfl | hy
      · exact hl _ (by simp)
      · exact add_ahead x l s hc.2.2 hr hs (fun y hy => hl y (by simp [hy])) y hy
    · rw [if_neg h1] at hy
      by_cases h2 : Ah s z
      · rw [if_pos h2] at hy
        rcases List.mem_cons.1 hy with rfl | hy
        · exact hs
        · exact hl y hy
      · rw [if_neg h2] at hy
        refine add_ahead x l (mg s z) hc.2.2 (mg_rt hr hc.1 h1 h2) ?_ (fun y hy => hl y (by simp [hy])) y hy
        have hz := hl z (by simp)
        have := mg_same h1 h2
        unfold Ah mg mn at *
        dsimp only
        split <;> omega
theorem add_can : ∀ (l : List S) (s : S), Cn l → Rt s → Cn (add l s)
  | [], s, _, hr => ⟨hr, by simp, trivial⟩
  | x :: l, s, hc, hr => by
    unfold add
    by_cases h1 : Ah x s
    · rw [if_pos h1]
      exact ⟨hc.1, add_ahead x l s hc.2.2 hr h1 hc.2.1, add_can l s hc.2.2 hr⟩
    · rw [if_neg h1]
      by_cases h2 : Ah s x
      · rw [if_pos h2]
        refine ⟨hr, fun y hy => ?_, hc⟩
        rcases List.mem_cons.1 hy with rfl | hy
        · exact h2
        · exact Ah_trans hc.1 h2 (hc.2.1 y hy)
      · rw [if_neg h2]
        exact add_can l (mg s x) hc.2.2 (mg_rt hr hc.1 h1 h2)
theorem add_has (t p : Int) : ∀ (l : List S) (s : S), Cn l → Rt s → (Has (add l s) t p ↔ Has l t p ∨ In s t p)
  | [], s, _, _ => by simp [add, Has]
  | x :: l, s, hc, hr => by
    unfold add
    by_cases h1 : Ah x s
    · rw [if_pos h1, has_cons, has_cons, add_has t p l s hc.2.2 hr, or_assoc]
    · rw [if_neg h1]
      by_cases h2 : Ah s x
      · rw [if_pos h2, has_cons, or_comm]
      · rw [if_neg h2, add_has t p l (mg s x) hc.2.2 (mg_rt hr hc.1 h1 h2), mg_in hr hc.1 h1 h2, has_cons]
        constructor
        · rintro (h | h | h)
          · exact .inl (.inr h)
          · exact .inr h
          · exact .inl (.inl h)
        · rintro ((h | h) | h)
          · exact .inr (.inr h)
          · exact .inl h
          · exact .inr (.inl h)
theorem add_length : ∀ (l : List S) (s : S), (add l s).length ≤ l.length + 1
  | [], s => by simp [add]
  | x :: l, s => by
    unfold add
    by_cases h1 : Ah x s
    · rw [if_pos h1]; have := add_length l s; simp; omega
    · rw [if_neg h1]
      by_cases h2 : Ah s x
      · rw [if_pos h2]; simp
      · rw [if_neg h2]; have := add_length l (mg s x); simp; omega
theorem pieces_mem {x s y : S} (hx : Rt x) (hs : Rt s) (h : y ∈ pieces x s) : Rt y ∧ y.f0 = x.f0 ∧ x.f1 ≤ y.f1 ∧ y.f2 ≤ x.f2 := by
  unfold pieces at h
  unfold Rt at *
  split at h
  · rw [List.mem_append] at h
    rcases h with h | h
    · split at h
      · simp at h; subst h; dsimp only; omega
      · simp at h
    · split at h
      · simp at h; subst h; dsimp only; omega
      · simp at h
  · simp at h; subst h; omega
theorem cut_ahead {x s : S} {l : List S} (hc : Cn l) (hs : Rt s) (h : ∀ y ∈ l, Ah x y) : ∀ y ∈ cut l s, Ah x y := by
  intro y hy
  induction l with
  | nil => simp [cut] at hy
  | cons z l ih =>
    simp only [cut, List.flatMap_cons, List.mem_append] at hy
    rcases hy with hy | hy
    · have hp := pieces_mem hc.1 hs hy
      have hz := h z (by simp)
      unfold Ah Rt at *; omega
    · exact ih hc.2.2 (fun y hy => h y (by simp [hy])) hy
theorem can_append : ∀ {l m : List S}, Cn l → Cn m → (∀ x ∈ l, ∀ y ∈ m, Ah x y) → Cn (l ++ m)
  | [], _, _, hm, _ => hm
  | x :: l, m, hl, hm, h => ⟨hl.1, fun y hy => by
      rcases List.mem_append.1 hy with hy | hy
      · exact hl.2.1 y hy
      · exact h x (by simp) y hy, can_append hl.2.2 hm (fun x hx y hy => h x (by simp [hx]) y hy)⟩
theorem pieces_can {x s : S} (hx : Rt x) (hs : Rt s) : Cn (pieces x s) := by
  unfold pieces
  split
  · rename_i h
    split <;> split <;> simp only [List.append_nil, List.nil_append, List.cons_append, Cn, List.not_mem_nil, List.mem_cons, or_false, false_implies, implies_true, forall_eq, and_true]
    · (try unfold Ah at *); unfold Rt at *; dsimp only; omega
    · (try unfold Ah at *); unfold Rt at *; dsimp only; omega
    · (try unfold Ah at *); unfold Rt at *; dsimp only; omega
  · simp [Cn]; exact hx
theorem cut_can : ∀ (l : List S) (s : S), Cn l → Rt s → Cn (cut l s)
  | [], s, _, _ => trivial
  | x :: l, s, hc, hr => by
    show Cn (pieces x s ++ cut l s)
    refine can_append (pieces_can hc.1 hr) (cut_can l s hc.2.2 hr) (fun y hy z hz => ?_)
    have h1 := cut_ahead (x := x) hc.2.2 hr hc.2.1 z hz
    have h2 := pieces_mem hc.1 hr hy
    unfold Ah Rt at *; omega
theorem pieces_has {x s : S} (hx : Rt x) (hs : Rt s) (t p : Int) : Has (pieces x s) t p ↔ In x t p ∧ ¬ In s t p := by
  unfold pieces Rt at *
  split
  · rename_i h
    rw [has_append]
    split <;> split <;> simp only [has_nil, has_cons, or_false, false_or] <;> unfold In <;> (try dsimp only) <;> first | omega | (simp only [false_iff]; omega) | (constructor <;> intro h <;> first | exact h.elim | (exfalso; omega))
  · rw [has_cons]
    simp only [has_nil, or_false]
    unfold In; omega
theorem cut_has (t p : Int) : ∀ (l : List S) (s : S), Cn l → Rt s → (Has (cut l s) t p ↔ Has l t p ∧ ¬ In s t p)
  | [], s, _, _ => by simp [cut, Has]
  | x :: l, s, hc, hr => by
    show Has (pieces x s ++ cut l s) t p ↔ _
    rw [has_append, pieces_has hc.1 hr, cut_has t p l s hc.2.2 hr, has_cons]
    constructor
    · rintro (⟨h, k⟩ | ⟨h, k⟩)
      · exact ⟨.inl h, k⟩
      · exact ⟨.inr h, k⟩
    · rintro ⟨h | h, k⟩
      · exact .inl ⟨h, k⟩
      · exact .inr ⟨h, k⟩
theorem pieces_length (x s : S) : (pieces x s).length ≤ 2 := by
  unfold pieces
  split
  · split <;> split <;> simp
  · simp
theorem cut_length : ∀ (l : List S) (s : S), (cut l s).length ≤ 2 * l.length
  | [], s => by simp [cut]
  | x :: l, s => by
    have h1 := pieces_length x s
    have h2 := cut_length l s
    show (pieces x s ++ cut l s).length ≤ _
    simp; omega
/-- Canonical lists with the same addresses are the same. -/
theorem can_first {x : S} {l : List S} (hc : Cn (x :: l)) (t p : Int) (h : Has (x :: l) t p) : x.f0 < t ∨ (x.f0 = t ∧ x.f1 ≤ p) := by
  rw [has_cons] at h
  rcases h with h | ⟨y, hy, h⟩
  · unfold In at h; omega
  · have := hc.2.1 y hy
    have hr := hc.1
    unfold In at h
    unfold Ah Rt at *; omega
theorem can_rt : ∀ {l : List S}, Cn l → ∀ x ∈ l, Rt x
  | x :: l, hc, y, hy => by
    rcases List.mem_cons.1 hy with rfl | hy
    · exact hc.1
    · exact can_rt hc.2.2 y hy
theorem can_tail_out {x : S} {l : List S} (hc : Cn (x :: l)) (t p : Int) (h : Has l t p) : x.f0 < t ∨ (x.f0 = t ∧ x.f2 < p) := by
  obtain ⟨y, hy, h⟩ := h
  have := hc.2.1 y hy
  unfold In at h
  unfold Ah at this; omega
theorem can_eq : ∀ (l m : List S), Cn l → Cn m → (∀ t p, Has l t p ↔ Has m t p) → l = m
  | [], [], _, _, _ => rfl
  | [], y :: m, _, hm, h => by
    have hy := hm.1
    exact absurd ((h y.f0 y.f1).2 ((has_cons _ _ _ _).2 (.inl (by unfold In; unfold Rt at hy; omega)))) (has_nil _ _)
  | x :: l, [], hl, _, h => by
    have hx := hl.1
    exact absurd ((h x.f0 x.f1).1 ((has_cons _ _ _ _).2 (.inl (by unfold In; unfold Rt at hx; omega)))) (has_nil _ _)
  | x :: l, y :: m, hl, hm, h => by
    have hx := hl.1
    have hy := hm.1
    have h1 := can_first hm _ _ ((h x.f0 x.f1).1 ((has_cons _ _ _ _).2 (.inl (by unfold In; unfold Rt at hx; omega))))
    have h2 := can_first hl _ _ ((h y.f0 y.f1).2 ((has_cons _ _ _ _).2 (.inl (by unfold In; unfold Rt at hy; omega))))
    have e0 : x.f0 = y.f0 := by omega
    have e1 : x.f1 = y.f1 := by omega
    have e2 : x.f2 = y.f2 := by
      by_cases hlt : x.f2 < y.f2
      · have h3 := (h x.f0 x.f2).2 ((has_cons _ _ _ _).2 (.inl (by unfold In; unfold Rt at hx hy; omega)))
        rcases (has_cons _ _ _ _).1 h3 with h4 | h4
        · unfold In at h4; omega
        · have := can_tail_out hl _ _ h4; omega
      · by_cases hgt : y.f2 < x.f2
        · have h3 := (h y.f0 y.f2).1 ((has_cons _ _ _ _).2 (.inl (by unfold In; unfold Rt at hx hy; omega)))
          rcases (has_cons _ _ _ _).1 h3 with h4 | h4
          · unfold In at h4; omega
          · have := can_tail_out hm _ _ h4; omega
        · omega
    have e : x = y := by
      cases x; cases y; simp_all
    subst e
    congr 1
    refine can_eq l m hl.2.2 hm.2.2 (fun t p => ?_)
    have := h t p
    rw [has_cons, has_cons] at this
    constructor
    · intro k
      rcases this.1 (.inr k) with k2 | k2
      · have := can_tail_out hl _ _ k
        unfold In at k2; omega
      · exact k2
    · intro k
      rcases this.2 (.inr k) with k2 | k2
      · have := can_tail_out hm _ _ k
        unfold In at k2; omega
      · exact k2
/-- How many addresses there are; how many of s. -/
def size : List S → Int
  | [] => 0
  | x :: l => (x.f2 - x.f1) + size l
def over (x s : S) : Int := if x.f0 = s.f0 ∧ s.f1 < x.f2 ∧ x.f1 < s.f2 then mn x.f2 s.f2 - mx x.f1 s.f1 else 0
def inter : List S → S → Int
  | [], _ => 0
  | x :: l, s => over x s + inter l s
theorem size_append (l m : List S) : size (l ++ m) = size l + size m := by
  induction l with
  | nil => simp [size]
  | cons x l ih => simp [size, ih]; omega
theorem size_cut : ∀ (l : List S) (s : S), Cn l → Rt s → size (cut l s) + inter l s = size l
  | [], s, _, _ => rfl
  | x :: l, s, hc, hr => by
    have ih := size_cut l s hc.2.2 hr
    have hx := hc.1
    show size (pieces x s ++ cut l s) + _ = _
    rw [size_append]
    simp only [inter, size]
    have : size (pieces x s) + over x s = x.f2 - x.f1 := by
      unfold pieces over Rt mn mx at *
      split
      · split <;> split <;> simp only [List.append_nil, List.nil_append, List.cons_append, size] <;> (repeat' split) <;> omega
      · simp only [size]; omega
    omega
theorem inter_ahead {s : S} : ∀ (l : List S), (∀ x ∈ l, Ah s x) → inter l s = 0
  | [], _ => rfl
  | x :: l, h => by
    have hx := h x (by simp)
    simp only [inter, inter_ahead l (fun x hx => h x (by simp [hx])), over]
    unfold Ah at hx
    rw [if_neg (by omega)]; rfl
theorem inter_mg {s x : S} (hs : Rt s) (hx : Rt x) (h1 : ¬ Ah x s) (h2 : ¬ Ah s x) : ∀ (l : List S), (∀ y ∈ l, Ah x y) → Cn l → inter l (mg s x) = inter l s
  | [], _, _ => rfl
  | y :: l, h, hc => by
    have hy := h y (by simp)
    have hry := hc.1
    simp only [inter, inter_mg hs hx h1 h2 l (fun y hy => h y (by simp [hy])) hc.2.2]
    congr 1
    have := mg_same h1 h2
    unfold over mg mn mx Ah Rt at *
    dsimp only
    (repeat' split) <;> omega
theorem size_add : ∀ (l : List S) (s : S), Cn l → Rt s → size (add l s) + inter l s = size l + (s.f2 - s.f1)
  | [], s, _, _ => by simp [add, size, inter]
  | x :: l, s, hc, hr => by
    have hx := hc.1
    unfold add
    by_cases h1 : Ah x s
    · rw [if_pos h1]
      have ih := size_add l s hc.2.2 hr
      simp only [size, inter]
      have : over x s = 0 := by unfold over; unfold Ah at h1; rw [if_neg (by omega)]
      omega
    · rw [if_neg h1]
      by_cases h2 : Ah s x
      · rw [if_pos h2]
        have := inter_ahead (s := s) (x :: l) (fun y hy => by
          rcases List.mem_cons.1 hy with rfl | hy
          · exact h2
          · exact Ah_trans hc.1 h2 (hc.2.1 y hy))
        rw [this]
        simp only [size]; omega
      · rw [if_neg h2]
        have ih := size_add l (mg s x) hc.2.2 (mg_rt hr hc.1 h1 h2)
        rw [inter_mg hr hc.1 h1 h2 l hc.2.1 hc.2.2] at ih
        simp only [size, inter]
        have : (mg s x).f2 - (mg s x).f1 + over x s = (x.f2 - x.f1) + (s.f2 - s.f1) := by
          have := mg_same h1 h2
          unfold over mg mn mx Rt at *
          dsimp only
          (repeat' split) <;> omega
        omega
theorem over_bounds {x s : S} (hx : Rt x) (hs : Rt s) : 0 ≤ over x s := by
  unfold over mn mx Rt at *
  (repeat' split) <;> omega
theorem inter_nonneg : ∀ (l : List S) (s : S), Cn l → Rt s → 0 ≤ inter l s
  | [], _, _, _ => by simp [inter]
  | x :: l, s, hc, hr => by
    have := over_bounds hc.1 hr
    have := inter_nonneg l s hc.2.2 hr
    simp only [inter]; omega
def Meets (l : List S) (s : S) : Prop := ∃ x ∈ l, x.f0 = s.f0 ∧ x.f1 < s.f2 ∧ s.f1 < x.f2
def Covers (l : List S) (s : S) : Prop := ∃ x ∈ l, x.f0 = s.f0 ∧ x.f1 ≤ s.f1 ∧ s.f2 ≤ x.f2
theorem inter_meets : ∀ (l : List S) (s : S), Cn l → Rt s → (inter l s = 0 ↔ ¬ Meets l s)
  | [], _, _, _ => by simp [inter, Meets]
  | x :: l, s, hc, hr => by
    have ih := inter_meets l s hc.2.2 hr
    have h0 := inter_nonneg l s hc.2.2 hr
    have h1 := over_bounds hc.1 hr
    have hx := hc.1
    have ho : over x s = 0 ↔ ¬ (x.f0 = s.f0 ∧ x.f1 < s.f2 ∧ s.f1 < x.f2) := by
      unfold over mn mx Rt at *
      (repeat' split) <;> omega
    have hm : Meets (x :: l) s ↔ (x.f0 = s.f0 ∧ x.f1 < s.f2 ∧ s.f1 < x.f2) ∨ Meets l s := by simp [Meets]
    rw [hm]
    simp only [inter]
    constructor
    · intro h
      rintro (k | k)
      · exact ho.1 (by omega) k
      · exact ih.1 (by omega) k
    · intro h
      have := ho.2 (fun k => h (.inl k))
      have := ih.2 (fun k => h (.inr k))
      omega
/-- All behind x: what is not before s's end. -/
theorem inter_le : ∀ (l : List S) (s : S) (b : Int), Cn l → Rt s → (∀ x ∈ l, x.f0 = s.f0 → b ≤ x.f1) → b ≤ s.f2 → inter l s ≤ s.f2 - mx b s.f1 ∧ (inter l s = s.f2 - s.f1 → b ≤ s.f1 → Covers l s)
  | [], s, b, _, hr, _, hb => by
    refine ⟨?_, fun h _ => ?_⟩
    · simp only [inter]; unfold mx Rt at *; split <;> omega
    · simp only [inter] at h; unfold Rt at hr; omega
  | x :: l, s, b, hc, hr, hl, hb => by
    have hx := hc.1
    have hlx := hl x (by simp)
    by_cases hm : x.f0 = s.f0 ∧ s.f1 < x.f2 ∧ x.f1 < s.f2
    · by_cases he : x.f2 < s.f2
      · have ih := inter_le l s (x.f2 + 1) hc.2.2 hr (fun y hy e => by
          have := hc.2.1 y hy
          unfold Ah at this; omega) (by omega)
        simp only [inter]
        have ho : over x s = x.f2 - mx x.f1 s.f1 := by
          unfold over mn; rw [if_pos hm, if_neg (by omega)]
        refine ⟨?_, fun h _ => ?_⟩
        · have := ih.1
          unfold mx Rt at *
          (repeat' split at *) <;> omega
        · exfalso
          have := ih.1
          unfold mx Rt at *
          (repeat' split at *) <;> omega
      · have h0 : inter l s = 0 := by
          rw [inter_meets l s hc.2.2 hr]
          rintro ⟨y, hy, h⟩
          have := hc.2.1 y hy
          unfold Ah at this; omega
        simp only [inter, h0]
        have ho : over x s = s.f2 - mx x.f1 s.f1 := by
          unfold over mn; rw [if_pos hm]
          split <;> omega
        refine ⟨?_, fun h _ => ?_⟩
        · unfold mx Rt at *
          (repeat' split at *) <;> omega
        · refine ⟨x, by simp, hm.1, ?_, by omega⟩
          unfold mx at ho
          split at ho <;> omega
    · have ho : over x s = 0 := by unfold over; rw [if_neg hm]
      have ih := inter_le l s b hc.2.2 hr (fun y hy e => hl y (by simp [hy]) e) hb
      simp only [inter, ho]
      refine ⟨by have := ih.1; omega, fun h hb' => ?_⟩
      obtain ⟨y, hy, k⟩ := ih.2 (by omega) hb'
      exact ⟨y, by simp [hy], k⟩
theorem covers_inter : ∀ (l : List S) (s : S), Cn l → Rt s → Covers l s → inter l s = s.f2 - s.f1
  | x :: l, s, hc, hr, h => by
    obtain ⟨y, hy, h⟩ := h
    have hx := hc.1
    simp only [inter]
    rcases List.mem_cons.1 hy with rfl | hy
    · have h0 : inter l s = 0 := by
        rw [inter_meets l s hc.2.2 hr]
        rintro ⟨z, hz, k⟩
        have := hc.2.1 z hz
        unfold Ah at this; omega
      rw [h0]
      unfold over mn mx Rt at *
      (repeat' split) <;> omega
    · have ih := covers_inter l s hc.2.2 hr ⟨y, hy, h⟩
      have := hc.2.1 y hy
      have ho : over x s = 0 := by unfold over; unfold Ah at this; unfold Rt at hr; rw [if_neg (by omega)]
      omega
theorem inter_covers (l : List S) (s : S) (hc : Cn l) (hr : Rt s) : inter l s = s.f2 - s.f1 ↔ Covers l s := by
  refine ⟨fun h => ?_, covers_inter l s hc hr⟩
  have hs := hr
  unfold Rt at hs
  exact (inter_le l s 0 hc hr (fun x hx _ => by have := can_rt hc x hx; unfold Rt at this; omega) (by omega)).2 h (by omega)
theorem size_bound : ∀ (l : List S), Cn l → 0 ≤ size l ∧ size l ≤ 65536 * l.length
  | [], _ => by simp [size]
  | x :: l, hc => by
    have := size_bound l hc.2.2
    have hx := hc.1
    unfold Rt at hx
    simp only [size, List.length_cons]
    omega
end Go.Proofs.Ytmbkbpaoiilicaa.LemSpanGroupC
