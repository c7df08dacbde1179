/- What head.Put, head.Get and the document's PutHead answer (group Adu). -/
import Derived.Test.YtgbclemmadkcmaaPAdux0
import Derived.Test.YtgbclemmadkcmaaPAdux10
import Derived.Test.YtgbclemmadkcmaaPAdux2
import Derived.Test.YtgbclemmadkcmaaPAdux3
import Derived.Test.YtgbclemmadkcmaaPAdux6
import Derived.Test.YtgbclemmadkcmaaPAdux7
import Derived.Test.YtgbclemmadkcmaaPAdux9
import Derived.Test.YtgbclemmadkcmaaLemBytesAdu
set_option linter.unusedVariables false
set_option linter.unusedSimpArgs false
namespace Go.Proofs.Ytgbclemmadkcmaa.LemHeadAdu
open Go.RowKit Go.Proofs.Ytgbclemmadkcmaa.PAdu Go.Proofs.YtgbclemmadkcmaaW.PrintWords Go.Proofs.YtgbclemmadkcmaaW.PrintLast Go.Proofs.YtgbclemmadkcmaaW.PrintMore Go.Proofs.Ytgbclemmadkcmaa.Num Go.Proofs.Ytgbclemmadkcmaa.LemBytesAdu

def Ok (t l u : Int) : Prop := 0 ≤ t ∧ t ≤ 65535 ∧ 2 ≤ l ∧ l ≤ 254 ∧ 0 ≤ u ∧ u ≤ 255
instance (t l u : Int) : Decidable (Ok t l u) := by unfold Ok; infer_instance
def hb (t l u : Int) : List Int := [t / 256, t % 256, 0, 0, 0, l, u]
theorem held1 (x a b : Int) (hab : a ≤ b) : (x == mn (mx x a) b) = decide (a ≤ x ∧ x ≤ b) := by
  rw [Bool.eq_iff_iff]
  simp only [beq_iff_eq, decide_eq_true_eq]
  unfold mn mx
  split <;> split <;> omega
theorem held_bad (t l u : Int) : (!(t == mn (mx t 0) 65535) || (!(l == mn (mx l 2) 254) || (!(u == mn (mx u 0) 255)))) = !decide (Ok t l u) := by
  have e : Ok t l u ↔ (0 ≤ t ∧ t ≤ 65535) ∧ (2 ≤ l ∧ l ≤ 254) ∧ (0 ≤ u ∧ u ≤ 255) := by unfold Ok; constructor <;> intro h <;> omega
  rw [held1 t 0 65535 (by omega), held1 l 2 254 (by omega), held1 u 0 255 (by omega), Bool.eq_iff_iff]
  simp only [Bool.or_eq_true, Bool.not_eq_true', decide_eq_false_iff_not, e]
  omega
theorem len_lt (l : List Int) (h : l.length ≤ 100000) : l.length < 140737488355328 := by omega
theorem hb_of (t l u : Int) (h : Ok t l u) : [] ++ [t / 256, t % 256] ++ [0 / 256, 0 % 256] ++ [l / 256, l % 256] ++ [u % 256] = hb t l u := by
  unfold Ok at h
  rw [show l / 256 = 0 by omega, show l % 256 = l by omega, show u % 256 = u by omega]
  rfl
theorem six (l : List Int) (h : 6 ≤ l.length) : ∃ b0 b1 b2 b3 b4 b5 r, l = b0 :: b1 :: b2 :: b3 :: b4 :: b5 :: r := by
  rcases l with _ | ⟨b0, _ | ⟨b1, _ | ⟨b2, _ | ⟨b3, _ | ⟨b4, _ | ⟨b5, r⟩⟩⟩⟩⟩⟩
  · simp at h
  · simp at h
  · simp at h
  · simp at h
  · simp at h
  · simp at h
  · exact ⟨b0, b1, b2, b3, b4, b5, r, rfl⟩
theorem put_ok (t l u : Int) (h : Ok t l u) : head_Put.f t l u = some (hb t l u, 0) := by
  unfold head_Put.f head_held.f
  rw [Option.bind_some, held_bad, decide_eq_true h, if_neg (by decide)]
  unfold Ok at h
  rw [u16_id (by omega) (by omega), put_eq _ _ (by omega) (by omega) (by simp only [List.length_append, List.length_cons, List.length_nil]; omega), Option.bind_some]
  rw [put_eq _ _ (by omega) (by omega) (by simp only [List.length_append, List.length_cons, List.length_nil]; omega), Option.bind_some]
  rw [u16_id (by omega) (by omega), put_eq _ _ (by omega) (by omega) (by simp only [List.length_append, List.length_cons, List.length_nil]; omega), Option.bind_some]
  rw [if_pos (len_lt _ (by simp only [List.length_append, List.length_cons, List.length_nil]; omega)), hb_of t l u (by unfold Ok; omega)]
theorem put_no (t l u : Int) (h : ¬ Ok t l u) : head_Put.f t l u = some ([], 1) := by
  unfold head_Put.f head_held.f
  simp only [Option.bind_some]
  rw [held_bad, decide_eq_false h]
  simp
theorem refput1_eq (l : List Int) (w : Int) (h0 : 0 ≤ w) (h1 : w < 65536) (hl : l.length ≤ 100000) : busbarref1_Put.f l w = some (l ++ [w / 256, w % 256]) := by
  unfold busbarref1_Put.f
  rw [if_pos (by simp; omega)]
  simp only [Option.bind_some, List.nil_append, tdiv_pos h0 (by omega : (0 : Int) ≤ 256), tmod_pos h0]
  rw [if_pos (by simp; omega), u16_id (by omega) (by omega)]
  congr 3
  · omega
  · congr 1; omega
theorem two_eq (l : List Int) (w : Int) (h0 : 0 ≤ w) (h1 : w < 65536) (hl : l.length ≤ 100000) : busbarref5_two.f l w = some (l ++ [w / 256, w % 256]) := by
  unfold busbarref5_two.f
  rw [u16_id (by omega) (by omega), refput1_eq l w h0 h1 hl]
  rfl
theorem refput_ok (t l u : Int) (h : Ok t l u) {k : Nat} (hk : 2 ≤ k) : busbarref5_PutHead.f k t l u = some (hb t l u, 0) := by
  obtain ⟨k, rfl⟩ : ∃ m, k = m + 1 := ⟨k - 1, by omega⟩
  unfold Ok at h
  unfold busbarref5_PutHead.f busbarref5_place.f busbarref5_byteful.f
  rw [if_pos (by omega), decide_eq_true (by omega)]
  simp only [Option.bind_some, if_true]
  rw [if_neg (by omega), if_neg (by omega), if_pos (by omega), decide_eq_true (by omega)]
  simp only [Option.bind_some, Bool.not_true, busbarref5_PutHead.j0, Bool.false_eq_true, if_false]
  rw [two_eq _ _ (by omega) (by omega) (by simp only [List.length_append, List.length_cons, List.length_nil]; omega)]
  simp only [Option.bind_some]
  rw [two_eq _ _ (by omega) (by omega) (by simp only [List.length_append, List.length_cons, List.length_nil]; omega)]
  simp only [Option.bind_some]
  rw [two_eq _ _ (by omega) (by omega) (by simp only [List.length_append, List.length_cons, List.length_nil]; omega)]
  simp only [Option.bind_some]
  have hl : ([] ++ [t / 256, t % 256] ++ [(0 : Int) / 256, 0 % 256] ++ [l / 256, l % 256]).length + [u % 256].length < 140737488355328 := by simp only [List.length_append, List.length_cons, List.length_nil]; omega
  rw [if_pos hl, hb_of t l u (by unfold Ok; omega)]
theorem refput_no (t l u : Int) (h : ¬ Ok t l u) {k : Nat} (hk : 2 ≤ k) : busbarref5_PutHead.f k t l u = some ([], 1) := by
  obtain ⟨k, rfl⟩ : ∃ m, k = m + 1 := ⟨k - 1, by omega⟩
  have hj : busbarref5_PutHead.j0 (k + 1) true t l u = some ([], 1) := by simp [busbarref5_PutHead.j0]
  unfold busbarref5_PutHead.f busbarref5_place.f busbarref5_byteful.f
  by_cases h1 : 0 ≤ t
  · rw [if_pos h1]
    by_cases h2 : t ≤ 65535
    · rw [decide_eq_true h2]
      simp only [Option.bind_some, if_true]
      by_cases h3 : l < 2
      · rw [if_pos h3, hj]
      · rw [if_neg h3]
        by_cases h4 : l > 254
        · rw [if_pos h4, hj]
        · rw [if_neg h4]
          by_cases h5 : 0 ≤ u
          · rw [if_pos h5, decide_eq_false (by unfold Ok at h; omega)]
            simpa using hj
          · rw [if_neg h5]
            simpa using hj
    · rw [decide_eq_false h2]
      simpa using hj
  · rw [if_neg h1]
    simpa using hj
/-- What stands at the beginning of some bytes. -/
def hlook : List Int → Int × Int × Int × Int
  | b0 :: b1 :: b2 :: b3 :: b4 :: b5 :: r =>
    if b2 * 256 + b3 = 0 ∧ 2 ≤ b4 * 256 + b5 ∧ b4 * 256 + b5 ≤ 254 then (match r with | [] => (0, 0, 0, 3) | b6 :: _ => (b0 * 256 + b1, b4 * 256 + b5, b6, 0)) else (0, 0, 0, 2)
  | _ => (0, 0, 0, 3)
theorem hlook6 (b0 b1 b2 b3 b4 b5 : Int) : hlook [b0, b1, b2, b3, b4, b5] = if b2 * 256 + b3 = 0 ∧ 2 ≤ b4 * 256 + b5 ∧ b4 * 256 + b5 ≤ 254 then (0, 0, 0, 3) else (0, 0, 0, 2) := rfl
theorem hlook7 (b0 b1 b2 b3 b4 b5 b6 : Int) (r : List Int) : hlook (b0 :: b1 :: b2 :: b3 :: b4 :: b5 :: b6 :: r) = if b2 * 256 + b3 = 0 ∧ 2 ≤ b4 * 256 + b5 ∧ b4 * 256 + b5 ≤ 254 then (b0 * 256 + b1, b4 * 256 + b5, b6, 0) else (0, 0, 0, 2) := rfl
theorem hlook_few (l : List Int) (h : l.length < 6) : hlook l = (0, 0, 0, 3) := by
  match l, h with
  | [], _ => rfl
  | [_], _ => rfl
  | [_, _], _ => rfl
  | [_, _, _], _ => rfl
  | [_, _, _, _], _ => rfl
  | [_, _, _, _, _], _ => rfl
theorem get_eq (l : List Int) (hl : l.length ≤ 100000) (hb : B8 l) {k : Nat} (hk : 2 ≤ k) : head_Get.f k l = some (hlook l) := by
  obtain ⟨k, rfl⟩ : ∃ m, k = m + 1 := ⟨k - 1, by omega⟩
  unfold head_Get.f
  by_cases h6 : (l.length : Int) < 6
  · rw [if_pos h6, hlook_few l (by omega)]
  · rw [if_neg h6]
    obtain ⟨b0, b1, b2, b3, b4, b5, r, rfl⟩ := six l (by omega)
    · clear h6
      have g0 := get_some (b0 :: b1 :: b2 :: b3 :: b4 :: b5 :: r) 0 hl (by simp) hb
      have g2 := get_some (b0 :: b1 :: b2 :: b3 :: b4 :: b5 :: r) 2 hl (by simp) hb
      have g4 := get_some (b0 :: b1 :: b2 :: b3 :: b4 :: b5 :: r) 4 hl (by simp) hb
      simp only [List.getElem_cons_zero, List.getElem_cons_succ] at g0 g2 g4
      have e0 : word_Get.f (b0 :: b1 :: b2 :: b3 :: b4 :: b5 :: r) 0 = some (b0 * 256 + b1, true) := g0
      have e2 : word_Get.f (b0 :: b1 :: b2 :: b3 :: b4 :: b5 :: r) 2 = some (b2 * 256 + b3, true) := g2
      have e4 : word_Get.f (b0 :: b1 :: b2 :: b3 :: b4 :: b5 :: r) 4 = some (b4 * 256 + b5, true) := g4
      have c0 := hb b0 (by simp)
      have c1 := hb b1 (by simp)
      have c2 := hb b2 (by simp)
      have c3 := hb b3 (by simp)
      have c4 := hb b4 (by simp)
      have c5 := hb b5 (by simp)
      rw [e0, e2, e4]
      simp only [Option.bind_some]
      have hj : ∀ a b c, head_Get.j0 (k + 1) (b0 :: b1 :: b2 :: b3 :: b4 :: b5 :: r) true a b c = some (0, 0, 0, 2) := by intros; simp [head_Get.j0]
      by_cases hp : b2 * 256 + b3 = 0
      · rw [if_pos hp, wrap64_id (x := b0 * 256 + b1) (by omega) (by omega), wrap64_id (x := b4 * 256 + b5) (by omega) (by omega)]
        unfold head_held.f
        simp only [Option.bind_some]
        rw [held_bad]
        by_cases ho : 2 ≤ b4 * 256 + b5 ∧ b4 * 256 + b5 ≤ 254
        · rw [decide_eq_true (show Ok _ _ _ by unfold Ok; omega)]
          simp only [hlook]
          rw [if_pos ⟨hp, ho⟩]
          simp only [Bool.not_true, head_Get.j0, Bool.false_eq_true, if_false]
          match r, hb with
          | [], _ => simp
          | b6 :: r, hb =>
            have c6 := hb b6 (by simp)
            rw [if_neg (by simp; omega), if_pos (by simp; omega)]
            have hr : rd (b0 :: b1 :: b2 :: b3 :: b4 :: b5 :: b6 :: r) 6 = b6 := by simp [rd]
            rw [hr, wrap64_id (by omega) (by omega)]
        · rw [decide_eq_false (show ¬ Ok _ _ _ by unfold Ok; omega)]
          simp only [hlook]
          rw [if_neg (by omega)]
          exact hj _ _ _
      · rw [if_neg hp, hj]
        simp only [hlook]
        rw [if_neg (by omega)]
theorem hlook_hb (t l u : Int) (h : Ok t l u) (more : List Int) : hlook (hb t l u ++ more) = (t, l, u, 0) := by
  unfold Ok at h
  simp only [hb, List.cons_append, List.nil_append, hlook]
  rw [if_pos (by omega)]
  simp
  omega
theorem hb_b8 (t l u : Int) (h : Ok t l u) : B8 (hb t l u) := by
  unfold Ok at h
  intro x hx
  simp only [hb, List.mem_cons, List.not_mem_nil, or_false] at hx
  omega
end Go.Proofs.Ytgbclemmadkcmaa.LemHeadAdu
