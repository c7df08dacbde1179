/- Each front of a head's bytes is too little; one byte of its protocol turned, or its length out of bounds, and it is none: for all numbers. -/
import Derived.Test.YtkfdombneaikfaaLemHeadHead
import Derived.Test.YtkfdombneaikfaaLemWithinHead
namespace Go.Proofs.Ytkfdombneaikfaa.Pure
open Go.RowKit Go.Proofs.Ytkfdombneaikfaa.PHead Go.Proofs.YtkfdombneaikfaaW.PrintWords Go.Proofs.YtkfdombneaikfaaW.PrintLast Go.Proofs.Ytkfdombneaikfaa.Num Go.Proofs.Ytkfdombneaikfaa.LemHeadHead Go.Proofs.Ytkfdombneaikfaa.LemWithinHead

theorem front (t l u : Int) (h : Ok t l u) (i : Nat) (hi : i ≤ 6) {k : Nat} (hk : 2 ≤ k) : head_Get.f k ((hb t l u).take i) = some (0, 0, 0, 3) := by
  rw [get_eq _ (by simp [hb]; omega) (fun x hx => hb_b8 t l u h x (List.mem_of_mem_take hx)) hk]
  unfold Ok at h
  by_cases h5 : i ≤ 5
  · rw [hlook_few _ (by simp; omega)]
  · obtain rfl : i = 6 := by omega
    rw [show (hb t l u).take 6 = [t / 256, t % 256, 0, 0, 0, l] from rfl, hlook6, if_pos (by omega)]
theorem fronts (t l u by' : Int) (h : Ok t l u) : ∀ (d i k : Nat), i + d = 7 → d + 3 ≤ k → busbarlaw4_HeadFronts.l0 k by' (hb t l u) (i : Int) = busbarlaw4_HeadFronts.l1 (k - d - 1) by' (hb t l u) 2
  | 0, i, k, hi, hk => by
    obtain ⟨k, rfl⟩ : ∃ m, k = m + 1 := ⟨k - 1, by omega⟩
    rw [busbarlaw4_HeadFronts.l0, if_neg (by omega)]
    rfl
  | d + 1, i, k, hi, hk => by
    obtain ⟨k, rfl⟩ : ∃ m, k = m + 1 := ⟨k - 1, by omega⟩
    have hl : (hb t l u).length = 7 := rfl
    rw [busbarlaw4_HeadFronts.l0, if_pos (by omega), if_pos (by omega), if_pos (by omega), Int.toNat_natCast, front t l u h i (by omega) (by omega), Option.bind_some, if_pos rfl, wrap64_id (by omega) (by omega), show ((i : Int) + 1) = ((i + 1 : Nat) : Int) by omega, fronts t l u by' h d (i + 1) k (by omega) (by omega)]
    congr 1
    omega
theorem b8_7 {a b c d e f g : Int} (h : (0 ≤ a ∧ a < 256) ∧ (0 ≤ b ∧ b < 256) ∧ (0 ≤ c ∧ c < 256) ∧ (0 ≤ d ∧ d < 256) ∧ (0 ≤ e ∧ e < 256) ∧ (0 ≤ f ∧ f < 256) ∧ (0 ≤ g ∧ g < 256)) : B8 [a, b, c, d, e, f, g] := by
  intro x hx
  simp only [List.mem_cons, List.not_mem_nil, or_false] at hx
  omega
theorem rest (t l u v : Int) (h : Ok t l u) (h0 : 0 ≤ v) (h1 : v < 256) (k : Nat) (hk : 6 ≤ k) : busbarlaw4_HeadFronts.l1 k v (hb t l u) 2 = some true := by
  obtain ⟨k, rfl⟩ : ∃ m, k = m + 3 := ⟨k - 3, by omega⟩
  have ho := h
  unfold Ok at ho
  have g2 : head_Get.f (k + 2) [t / 256, t % 256, v, 0, 0, l, u] = some (hlook [t / 256, t % 256, v, 0, 0, l, u]) := get_eq _ (by simp) (b8_7 (by omega)) (by omega)
  have g3 : head_Get.f (k + 1) [t / 256, t % 256, 0, v, 0, l, u] = some (hlook [t / 256, t % 256, 0, v, 0, l, u]) := get_eq _ (by simp) (b8_7 (by omega)) (by omega)
  have g4 : head_Get.f k [t / 256, t % 256, 0, 0, v, l, u] = some (hlook [t / 256, t % 256, 0, 0, v, l, u]) := get_eq _ (by simp) (b8_7 (by omega)) (by omega)
  have g5 : head_Get.f k [t / 256, t % 256, 0, 0, 0, v % 2, u] = some (hlook [t / 256, t % 256, 0, 0, 0, v % 2, u]) := get_eq _ (by simp) (b8_7 (by omega)) (by omega)
  have l2 : ((hlook [t / 256, t % 256, v, 0, 0, l, u]).2.2.2 == 2) = (v != 0) := by
    rw [hlook7]
    by_cases hv : v = 0
    · subst hv; rw [if_pos (by omega)]; rfl
    · rw [if_neg (by omega)]; simpa using hv
  have l3 : ((hlook [t / 256, t % 256, 0, v, 0, l, u]).2.2.2 == 2) = (v != 0) := by
    rw [hlook7]
    by_cases hv : v = 0
    · subst hv; rw [if_pos (by omega)]; rfl
    · rw [if_neg (by omega)]; simpa using hv
  have l4 : ((hlook [t / 256, t % 256, 0, 0, v, l, u]).2.2.2 == 2) = (v != 0) := by
    rw [hlook7]
    by_cases hv : v = 0
    · subst hv; rw [if_pos (by omega)]; rfl
    · rw [if_neg (by omega)]; simpa using hv
  have l5 : ((hlook [t / 256, t % 256, 0, 0, 0, v % 2, u]).2.2.2 == 2) = true := by
    rw [hlook7]
    rw [if_neg (by omega)]; rfl
  have hv : v % 256 = v := by omega
  have hm : Int.tmod v 2 = v % 2 := tmod_pos h0
  have s2 : busbarlaw4_HeadFronts.l1 (k + 3) v (hb t l u) 2 = busbarlaw4_HeadFronts.l1 (k + 2) v (hb t l u) 3 := by
    rw [busbarlaw4_HeadFronts.l1, if_pos (by omega), if_pos (by simp [hb]), Option.bind_some, if_pos (by omega), if_pos (by simp [hb])]
    rw [show (([] : List Int) ++ hb t l u).set ((2 : Int)).toNat ((rd ([] ++ hb t l u) 2 + v) % 256) = [t / 256, t % 256, v, 0, 0, l, u] by simp [hb, rd, hv], g2, Option.bind_some, l2, bne_self_eq_false, if_neg (by decide), wrap64_id (by omega) (by omega)]
    rfl
  have s3 : busbarlaw4_HeadFronts.l1 (k + 2) v (hb t l u) 3 = busbarlaw4_HeadFronts.l1 (k + 1) v (hb t l u) 4 := by
    rw [busbarlaw4_HeadFronts.l1, if_pos (by omega), if_pos (by simp [hb]), Option.bind_some, if_pos (by omega), if_pos (by simp [hb])]
    rw [show (([] : List Int) ++ hb t l u).set ((3 : Int)).toNat ((rd ([] ++ hb t l u) 3 + v) % 256) = [t / 256, t % 256, 0, v, 0, l, u] by simp [hb, rd, hv], g3, Option.bind_some, l3, bne_self_eq_false, if_neg (by decide), wrap64_id (by omega) (by omega)]
    rfl
  rw [s2, s3, busbarlaw4_HeadFronts.l1, if_neg (by omega), if_pos (by simp [hb]), Option.bind_some, if_pos (by simp [hb]), Option.bind_some]
  rw [show (([] : List Int) ++ hb t l u).set ((4 : Int)).toNat ((rd ([] ++ hb t l u) 4 + v) % 256) = [t / 256, t % 256, 0, 0, v, l, u] by simp [hb, rd, hv], g4, Option.bind_some, if_pos (by simp [hb])]
  rw [show (([t / 256, t % 256, 0, 0, v, l, u] : List Int).set ((4 : Int)).toNat 0).set ((5 : Int)).toNat (Int.tmod v 2) = [t / 256, t % 256, 0, 0, 0, v % 2, u] by simp [hm], g5, Option.bind_some, l4, beq_self_eq_true, if_pos rfl, l5]
theorem HeadFronts : busbarlaw4_HeadFronts.Pure := by
  intro a b c v _ _ _ hv
  obtain ⟨h0, h1⟩ := wf_u8 hv
  refine ⟨40, ?_⟩
  unfold busbarlaw4_HeadFronts.f
  rw [awake_ev (by omega), within_eq a 65536 (by omega) (by omega), within_eq b 253 (by omega) (by omega), within_eq c 256 (by omega) (by omega)]
  rw [Option.bind_some, if_pos rfl, Option.bind_some, Option.bind_some, Option.bind_some, wrap64_id (by omega) (by omega)]
  have ho : Ok (a % 65536) (2 + b % 253) (c % 256) := by unfold Ok; omega
  rw [put_ok _ _ _ ho, Option.bind_some, if_pos rfl]
  have hl : ((((hb (a % 65536) (2 + b % 253) (c % 256)).length : Int)) != 7) = false := rfl
  rw [hl, busbarlaw4_HeadFronts.j0, if_neg (by decide)]
  have hf := fronts _ _ _ v ho 7 0 39 (by omega) (by omega)
  exact hf.trans (rest _ _ _ v ho h0 h1 _ (by omega))
end Go.Proofs.Ytkfdombneaikfaa.Pure
