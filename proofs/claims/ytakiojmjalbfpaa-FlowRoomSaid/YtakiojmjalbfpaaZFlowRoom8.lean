/- Words and walks for FlowRoom (made of the session's own texts; each part by itself). -/
import Derived.RowKit
import Derived.Laws.BitsAllLaws
import Derived.Laws.BitsLemmas
import Derived.Deep.DeepCutAuto
import Derived.Test.YtakiojmjalbfpaaZFlowRoom7
set_option linter.unusedVariables false
namespace Go.Proofs.Ytakiojmjalbfpaa.Num
open Go.RowKit Go.Proofs.YtakiojmjalbfpaaW.PrintWords Go.Proofs.YtakiojmjalbfpaaW.PrintMore
theorem wrap64_id {x : Int} (h1 : -9223372036854775808 ≤ x) (h2 : x < 9223372036854775808) : wrap64 x = x := by unfold wrap64; omega
theorem u16_eq (n : Int) : IntKind.u16.wrap n = n % 65536 := by simp [IntKind.wrap, IntKind.bits, IntKind.signed]
theorem u16_id {x : Int} (h1 : 0 ≤ x) (h2 : x < 65536) : IntKind.u16.wrap x = x := by rw [u16_eq]; omega
theorem tdiv_pos {a b : Int} (h : 0 ≤ a) (hb : 0 ≤ b) : Int.tdiv a b = a / b := Int.tdiv_eq_ediv_of_nonneg h
theorem tmod_pos {a b : Int} (h : 0 ≤ a) : Int.tmod a b = a % b := Int.tmod_eq_emod_of_nonneg h
theorem nat_or_hi (n i b : Nat) (h : i < 2 ^ n) : (2 ^ n * b) ||| i = 2 ^ n * b + i := (Nat.two_pow_add_eq_or_of_lt h b).symm
theorem u16_or_hi (v w : Int) (h0 : 0 ≤ v) (h1 : v < 65536) (hd : v % 256 = 0) (h2 : 0 ≤ w) (h3 : w < 256) : bits .or .u16 v w = v + w := by
  rw [u16_or v w h0 h1 h2 (by omega)]
  obtain ⟨V, rfl⟩ := Int.eq_ofNat_of_zero_le h0
  obtain ⟨U, rfl⟩ := Int.eq_ofNat_of_zero_le h2
  have hd' : V % 2 ^ 8 = 0 := by omega
  obtain ⟨b, hb⟩ := Nat.dvd_of_mod_eq_zero hd'
  simp only [Int.toNat_natCast]
  rw [hb, nat_or_hi 8 U b (by omega)]
  omega
def B8 (l : List Int) : Prop := ∀ x ∈ l, 0 ≤ x ∧ x < 256
def raw (l : List Int) : List Int := l.flatMap fun w => [w / 256, w % 256]
end Go.Proofs.Ytakiojmjalbfpaa.Num
set_option linter.unusedVariables false
set_option linter.unusedSimpArgs false
namespace Go.Proofs.Ytakiojmjalbfpaa.LemBytesFlow
open Go.RowKit Go.Proofs.Ytakiojmjalbfpaa.PFlow Go.Proofs.YtakiojmjalbfpaaW.PrintWords Go.Proofs.YtakiojmjalbfpaaW.PrintLast Go.Proofs.YtakiojmjalbfpaaW.PrintMore Go.Proofs.Ytakiojmjalbfpaa.Num
theorem get_some (l : List Int) (i : Nat) (hl : l.length ≤ 100000) (h : i + 2 ≤ l.length) (hb : ∀ x ∈ l, 0 ≤ x ∧ x < 256) : word_Get.f l (i : Int) = some (l[i]'(by omega) * 256 + l[i + 1]'(by omega), true) := by
  unfold word_Get.f
  have ha := hb (l[i]'(by omega)) (List.getElem_mem _)
  have hc := hb (l[i + 1]'(by omega)) (List.getElem_mem _)
  have r0 : rd l (i : Int) = l[i]'(by omega) := by simp [rd, List.getD_eq_getElem?_getD, List.getElem?_eq_getElem (show i < l.length by omega)]
  have r1 : rd l ((i : Int) + 1) = l[i + 1]'(by omega) := by
    have : ((i : Int) + 1).toNat = i + 1 := by omega
    simp [rd, this, List.getD_eq_getElem?_getD, List.getElem?_eq_getElem (show i + 1 < l.length by omega)]
  rw [if_neg (by omega), wrap64_id (by omega) (by omega), if_neg (by omega), if_pos (by omega), if_pos (by omega), wrap64_id (by omega) (by omega), if_pos (by omega), if_pos (by omega), r0, r1]
  rw [u16_id (x := l[i]'(by omega)) (by omega) (by omega), u16_id (by omega) (by omega), u16_id (by omega) (by omega), u16_or_hi _ _ (by omega) (by omega) (by omega) (by omega) (by omega)]
end Go.Proofs.Ytakiojmjalbfpaa.LemBytesFlow
set_option linter.unusedVariables false
set_option linter.unusedSimpArgs false
namespace Go.Proofs.Ytakiojmjalbfpaa.LemHeadFlow
open Go.RowKit Go.Proofs.Ytakiojmjalbfpaa.PFlow Go.Proofs.YtakiojmjalbfpaaW.PrintWords Go.Proofs.YtakiojmjalbfpaaW.PrintLast Go.Proofs.YtakiojmjalbfpaaW.PrintMore Go.Proofs.Ytakiojmjalbfpaa.Num Go.Proofs.Ytakiojmjalbfpaa.LemBytesFlow
def Ok (t l u : Int) : Prop := 0 ≤ t ∧ t ≤ 65535 ∧ 2 ≤ l ∧ l ≤ 254 ∧ 0 ≤ u ∧ u ≤ 255
instance (t l u : Int) : Decidable (Ok t l u) := by unfold Ok; infer_instance
def hb (t l u : Int) : List Int := [t / 256, t % 256, 0, 0, 0, l, u]
theorem held1 (x a b : Int) (hab : a ≤ b) : (x == mn (mx x a) b) = decide (a ≤ x ∧ x ≤ b) := by
  rw [Bool.eq_iff_iff]
  simp only [beq_iff_eq, decide_eq_true_eq]
  unfold mn mx
  split <;> split <;> omega
theorem held_bad (t l u : Int) : (!(t == mn (mx t 0) 65535) || (!(l == mn (mx l 2) 254) || (!(u == mn (mx u 0) 255)))) = !decide (Ok t l u) := by
  have e : Ok t l u ↔ (0 ≤ t ∧ t ≤ 65535) ∧ (2 ≤ l ∧ l ≤ 254) ∧ (0 ≤ u ∧ u ≤ 255) := by unfold Ok; constructor <;> intro h <;> omega
  rw [held1 t 0 65535 (by omega), held1 l 2 254 (by omega), held1 u 0 255 (by omega), Bool.eq_iff_iff]
  simp only [Bool.or_eq_true, Bool.not_eq_true', decide_eq_false_iff_not, e]
  omega
theorem hb_of (t l u : Int) (h : Ok t l u) : [] ++ [t / 256, t % 256] ++ [0 / 256, 0 % 256] ++ [l / 256, l % 256] ++ [u % 256] = hb t l u := by
  unfold Ok at h
  rw [show l / 256 = 0 by omega, show l % 256 = l by omega, show u % 256 = u by omega]
  rfl
theorem six (l : List Int) (h : 6 ≤ l.length) : ∃ b0 b1 b2 b3 b4 b5 r, l = b0 :: b1 :: b2 :: b3 :: b4 :: b5 :: r := by
  rcases l with _ | ⟨b0, _ | ⟨b1, _ | ⟨b2, _ | ⟨b3, _ | ⟨b4, _ | ⟨b5, r⟩⟩⟩⟩⟩⟩
  · simp at h
  · simp at h
  · simp at h
  · simp at h
  · simp at h
  · simp at h
  · exact ⟨b0, b1, b2, b3, b4, b5, r, rfl⟩
theorem refput1_eq (l : List Int) (w : Int) (h0 : 0 ≤ w) (h1 : w < 65536) (hl : l.length ≤ 100000) : busbarref1_Put.f l w = some (l ++ [w / 256, w % 256]) := by
  unfold busbarref1_Put.f
  rw [if_pos (by simp; omega)]
  simp only [Option.bind_some, List.nil_append, tdiv_pos h0 (by omega : (0 : Int) ≤ 256), tmod_pos h0]
  rw [if_pos (by simp; omega), u16_id (by omega) (by omega)]
  congr 3
  · omega
  · congr 1; omega
theorem two_eq (l : List Int) (w : Int) (h0 : 0 ≤ w) (h1 : w < 65536) (hl : l.length ≤ 100000) : busbarref5_two.f l w = some (l ++ [w / 256, w % 256]) := by
  unfold busbarref5_two.f
  rw [u16_id (by omega) (by omega), refput1_eq l w h0 h1 hl]
  rfl
theorem refput_ok (t l u : Int) (h : Ok t l u) {k : Nat} (hk : 2 ≤ k) : busbarref5_PutHead.f k t l u = some (hb t l u, 0) := by
  obtain ⟨k, rfl⟩ : ∃ m, k = m + 1 := ⟨k - 1, by omega⟩
  unfold Ok at h
  unfold busbarref5_PutHead.f busbarref5_place.f busbarref5_byteful.f
  rw [if_pos (by omega), decide_eq_true (by omega)]
  simp only [Option.bind_some, if_true]
  rw [if_neg (by omega), if_neg (by omega), if_pos (by omega), decide_eq_true (by omega)]
  simp only [Option.bind_some, Bool.not_true, busbarref5_PutHead.j0, Bool.false_eq_true, if_false]
  rw [two_eq _ _ (by omega) (by omega) (by simp only [List.length_append, List.length_cons, List.length_nil]; omega)]
  simp only [Option.bind_some]
  rw [two_eq _ _ (by omega) (by omega) (by simp only [List.length_append, List.length_cons, List.length_nil]; omega)]
  simp only [Option.bind_some]
  rw [two_eq _ _ (by omega) (by omega) (by simp only [List.length_append, List.length_cons, List.length_nil]; omega)]
  simp only [Option.bind_some]
  have hl : ([] ++ [t / 256, t % 256] ++ [(0 : Int) / 256, 0 % 256] ++ [l / 256, l % 256]).length + [u % 256].length < 140737488355328 := by simp only [List.length_append, List.length_cons, List.length_nil]; omega
  rw [if_pos hl, hb_of t l u (by unfold Ok; omega)]
def hlook : List Int → Int × Int × Int × Int
  | b0 :: b1 :: b2 :: b3 :: b4 :: b5 :: r =>
    if b2 * 256 + b3 = 0 ∧ 2 ≤ b4 * 256 + b5 ∧ b4 * 256 + b5 ≤ 254 then (match r with | [] => (0, 0, 0, 3) | b6 :: _ => (b0 * 256 + b1, b4 * 256 + b5, b6, 0)) else (0, 0, 0, 2)
  | _ => (0, 0, 0, 3)
theorem hlook6 (b0 b1 b2 b3 b4 b5 : Int) : hlook [b0, b1, b2, b3, b4, b5] = if b2 * 256 + b3 = 0 ∧ 2 ≤ b4 * 256 + b5 ∧ b4 * 256 + b5 ≤ 254 then (0, 0, 0, 3) else (0, 0, 0, 2) := rfl
theorem hlook7 (b0 b1 b2 b3 b4 b5 b6 : Int) (r : List Int) : hlook (b0 :: b1 :: b2 :: b3 :: b4 :: b5 :: b6 :: r) = if b2 * 256 + b3 = 0 ∧ 2 ≤ b4 * 256 + b5 ∧ b4 * 256 + b5 ≤ 254 then (b0 * 256 + b1, b4 * 256 + b5, b6, 0) else (0, 0, 0, 2) := rfl
theorem hlook_few (l : List Int) (h : l.length < 6) : hlook l = (0, 0, 0, 3) := by
  match l, h with
  | [], _ => rfl
  | [_], _ => rfl
  | [_, _], _ => rfl
  | [_, _, _], _ => rfl
  | [_, _, _, _], _ => rfl
  | [_, _, _, _, _], _ => rfl
theorem get_eq (l : List Int) (hl : l.length ≤ 100000) (hb : B8 l) {k : Nat} (hk : 2 ≤ k) : head_Get.f k l = some (hlook l) := by
  obtain ⟨k, rfl⟩ : ∃ m, k = m + 1 := ⟨k - 1, by omega⟩
  unfold head_Get.f
  by_cases h6 : (l.length : Int) < 6
  · rw [if_pos h6, hlook_few l (by omega)]
  · rw [if_neg h6]
    obtain ⟨b0, b1, b2, b3, b4, b5, r, rfl⟩ := six l (by omega)
    · clear h6
      have g0 := get_some (b0 :: b1 :: b2 :: b3 :: b4 :: b5 :: r) 0 hl (by simp) hb
      have g2 := get_some (b0 :: b1 :: b2 :: b3 :: b4 :: b5 :: r) 2 hl (by simp) hb
      have g4 := get_some (b0 :: b1 :: b2 :: b3 :: b4 :: b5 :: r) 4 hl (by simp) hb
      simp only [List.getElem_cons_zero, List.getElem_cons_succ] at g0 g2 g4
      have e0 : word_Get.f (b0 :: b1 :: b2 :: b3 :: b4 :: b5 :: r) 0 = some (b0 * 256 + b1, true) := g0
      have e2 : word_Get.f (b0 :: b1 :: b2 :: b3 :: b4 :: b5 :: r) 2 = some (b2 * 256 + b3, true) := g2
      have e4 : word_Get.f (b0 :: b1 :: b2 :: b3 :: b4 :: b5 :: r) 4 = some (b4 * 256 + b5, true) := g4
      have c0 := hb b0 (by simp)
      have c1 := hb b1 (by simp)
      have c2 := hb b2 (by simp)
      have c3 := hb b3 (by simp)
      have c4 := hb b4 (by simp)
      have c5 := hb b5 (by simp)
      rw [e0, e2, e4]
      simp only [Option.bind_some]
      have hj : ∀ a b c, head_Get.j0 (k + 1) (b0 :: b1 :: b2 :: b3 :: b4 :: b5 :: r) true a b c = some (0, 0, 0, 2) := by intros; simp [head_Get.j0]
      by_cases hp : b2 * 256 + b3 = 0
      · rw [if_pos hp, wrap64_id (x := b0 * 256 + b1) (by omega) (by omega), wrap64_id (x := b4 * 256 + b5) (by omega) (by omega)]
        unfold head_held.f
        simp only [Option.bind_some]
        rw [held_bad]
        by_cases ho : 2 ≤ b4 * 256 + b5 ∧ b4 * 256 + b5 ≤ 254
        · rw [decide_eq_true (show Ok _ _ _ by unfold Ok; omega)]
          simp only [hlook]
          rw [if_pos ⟨hp, ho⟩]
          simp only [Bool.not_true, head_Get.j0, Bool.false_eq_true, if_false]
          match r, hb with
          | [], _ => simp
          | b6 :: r, hb =>
            have c6 := hb b6 (by simp)
            rw [if_neg (by simp; omega), if_pos (by simp; omega)]
            have hr : rd (b0 :: b1 :: b2 :: b3 :: b4 :: b5 :: b6 :: r) 6 = b6 := by simp [rd]
            rw [hr, wrap64_id (by omega) (by omega)]
        · rw [decide_eq_false (show ¬ Ok _ _ _ by unfold Ok; omega)]
          simp only [hlook]
          rw [if_neg (by omega)]
          exact hj _ _ _
      · rw [if_neg hp, hj]
        simp only [hlook]
        rw [if_neg (by omega)]
theorem hlook_hb (t l u : Int) (h : Ok t l u) (more : List Int) : hlook (hb t l u ++ more) = (t, l, u, 0) := by
  unfold Ok at h
  simp only [hb, List.cons_append, List.nil_append, hlook]
  rw [if_pos (by omega)]
  simp
  omega
theorem hb_b8 (t l u : Int) (h : Ok t l u) : B8 (hb t l u) := by
  unfold Ok at h
  intro x hx
  simp only [hb, List.mem_cons, List.not_mem_nil, or_false] at hx
  omega
end Go.Proofs.Ytakiojmjalbfpaa.LemHeadFlow
set_option linter.unusedVariables false
set_option linter.unusedSimpArgs false
namespace Go.Proofs.Ytakiojmjalbfpaa.LemBytes2Flow
open Go.RowKit Go.Proofs.Ytakiojmjalbfpaa.PFlow Go.Proofs.YtakiojmjalbfpaaW.PrintWords Go.Proofs.YtakiojmjalbfpaaW.PrintLast Go.Proofs.YtakiojmjalbfpaaW.PrintMore Go.Proofs.Ytakiojmjalbfpaa.Num Go.Proofs.Ytakiojmjalbfpaa.LemBytesFlow
theorem refput1_eq (l : List Int) (w : Int) (h0 : 0 ≤ w) (h1 : w < 65536) (hl : l.length ≤ 100000) : busbarref1_Put.f l w = some (l ++ [w / 256, w % 256]) := by
  unfold busbarref1_Put.f
  rw [if_pos (by simp; omega)]
  simp only [Option.bind_some, List.nil_append, tdiv_pos h0 (by omega : (0 : Int) ≤ 256), tmod_pos h0]
  rw [if_pos (by simp; omega), u16_id (by omega) (by omega)]
  congr 3
  · omega
  · congr 1; omega
end Go.Proofs.Ytakiojmjalbfpaa.LemBytes2Flow
set_option linter.unusedVariables false
set_option linter.unusedSimpArgs false
namespace Go.Proofs.Ytakiojmjalbfpaa.LemAduFlow
open Go.RowKit Go.Proofs.Ytakiojmjalbfpaa.PFlow Go.Proofs.YtakiojmjalbfpaaW.PrintWords Go.Proofs.YtakiojmjalbfpaaW.PrintLast Go.Proofs.YtakiojmjalbfpaaW.PrintMore Go.Proofs.Ytakiojmjalbfpaa.Num Go.Proofs.Ytakiojmjalbfpaa.LemHeadFlow Go.Proofs.Ytakiojmjalbfpaa.LemHead2Flow
theorem hb_length (t l u : Int) : (hb t l u).length = 7 := rfl
theorem refbytes_ok (t u : Int) (p : List Int) (hp : p.length ≤ 10000) (h : Ok t ((p.length : Int) + 1) u) {k : Nat} (hk : 4 ≤ k) : busbarref5_FrameBytes.f k t u p = some (hb t ((p.length : Int) + 1) u ++ p, 0) := by
  obtain ⟨k, rfl⟩ : ∃ m, k = m + 1 := ⟨k - 1, by omega⟩
  have h' := h
  unfold Ok at h'
  unfold busbarref5_FrameBytes.f
  rw [if_neg (by omega), decide_eq_false (by omega), busbarref5_FrameBytes.j0, if_neg (by decide), wrap64_id (x := (p.length : Int) + 1) (by omega) (by omega), refput_ok _ _ _ h (by omega), Option.bind_some, if_pos rfl, if_pos (by rw [hb_length]; omega)]
def cutl (l : List Int) : Int × Int × List Int × Int × Int :=
  if (hlook l).2.2.2 = 0 then (if (l.length : Int) < 6 + (hlook l).2.1 then (0, 0, [], 0, 3) else ((hlook l).1, (hlook l).2.2.1, (l.take (6 + (hlook l).2.1).toNat).drop 7, 6 + (hlook l).2.1, 0)) else (0, 0, [], 0, (hlook l).2.2.2)
theorem hlook_le (l : List Int) (h : (hlook l).2.2.2 = 0) : 2 ≤ (hlook l).2.1 ∧ (hlook l).2.1 ≤ 254 := by
  by_cases h6 : l.length < 6
  · rw [hlook_few l h6] at h; simp at h
  · obtain ⟨b0, b1, b2, b3, b4, b5, r, rfl⟩ := six l (by omega)
    match r with
    | [] =>
      rw [hlook6] at h
      split at h <;> simp at h
    | b6 :: r =>
      rw [hlook7] at h ⊢
      split at h
      · rename_i hc
        rw [if_pos hc]
        exact hc.2
      · simp at h
theorem cut_eq (l : List Int) (hl : l.length ≤ 100000) (hb : B8 l) {k : Nat} (hk : 2 ≤ k) : adu_Cut.f k l = some (cutl l) := by
  unfold adu_Cut.f cutl
  rw [get_eq l hl hb hk, Option.bind_some]
  by_cases h0 : (hlook l).2.2.2 = 0
  · have h1 := hlook_le l h0
    rw [if_pos h0, if_pos h0, wrap64_id (by omega) (by omega)]
    by_cases h2 : (l.length : Int) < 6 + (hlook l).2.1
    · rw [if_pos h2, if_pos h2]
    · rw [if_neg h2, if_neg h2, if_pos (by omega), if_pos (by omega)]
      unfold slices_Clone_byte_byte.f
      rw [if_pos (by rw [List.length_drop, List.length_take]; omega), Option.bind_some]
  · rw [if_neg h0, if_neg h0]
theorem cut_frame (t u : Int) (p m : List Int) (h : Ok t ((p.length : Int) + 1) u) : cutl (hb t ((p.length : Int) + 1) u ++ p ++ m) = (t, u, p, 7 + (p.length : Int), 0) := by
  unfold cutl
  rw [List.append_assoc, hlook_hb _ _ _ h, if_pos rfl, if_neg (by simp only [List.length_append, hb_length]; omega)]
  have e : (6 + ((p.length : Int) + 1)).toNat = 7 + p.length := by omega
  dsimp only
  rw [e, List.take_append, hb_length, show 7 + p.length - 7 = p.length by omega, List.take_of_length_le (by rw [hb_length]; omega), List.take_append_of_le_length (by omega), List.take_length, List.drop_append, hb_length, Nat.sub_self, List.drop_zero, List.drop_eq_nil_of_le (by rw [hb_length]; omega), List.nil_append]
  congr 3
  congr 1
  omega
theorem frame_b8 (t u : Int) (p : List Int) (h : Ok t ((p.length : Int) + 1) u) (hp : B8 p) : B8 (hb t ((p.length : Int) + 1) u ++ p) := by
  intro x hx
  rcases List.mem_append.1 hx with h1 | h1
  · exact hb_b8 _ _ _ h x h1
  · exact hp x h1
end Go.Proofs.Ytakiojmjalbfpaa.LemAduFlow
set_option linter.unusedVariables false
set_option linter.unusedSimpArgs false
namespace Go.Proofs.Ytakiojmjalbfpaa.Ring
open Go.RowKit Go.Proofs.YtakiojmjalbfpaaW.PrintWords Go.Proofs.YtakiojmjalbfpaaW.PrintLast Go.Proofs.YtakiojmjalbfpaaW.PrintMore Go.Proofs.Ytakiojmjalbfpaa.PFlow Go.Proofs.Ytakiojmjalbfpaa.Num Go.Proofs.Ytakiojmjalbfpaa.LemHeadFlow Go.Proofs.Ytakiojmjalbfpaa.LemAduFlow
attribute [local go_sem] plus_setCell_drewN plus_cell_same
theorem cut_is (q : List Int) (hb : B8 q) : CutIs cutl q := by
  intro W A n c hn hC hc
  subst hn
  exact adu_Cut.calls 10 A c (q.take 260) _ _ _ _ _ W hC hc (cut_eq (q.take 260) (by rw [List.length_take]; omega) (fun x hx => hb x (List.mem_of_mem_take hx)) (by omega))
structure FSt (w0 : World) (gf g B M : Nat) (q : List Int) (bad : Bool) (w : World) : Prop where
  f : FlowW w gf g B M q bad
  b : Below w0.heap.size w0 w
  g0 : w0.heap.size ≤ gf
  g1 : w0.heap.size ≤ g
  g2 : w0.heap.size ≤ B
  b8 : B8 q
theorem FSt.below {w0 w w1 : World} {gf g B M : Nat} {q : List Int} {bad : Bool} (h : FSt w0 gf g B M q bad w) (hb : Below w.heap.size w w1) : FSt w0 gf g B M q bad w1 := ⟨h.f.below hb, below_then h.b h.b.size hb, h.g0, h.g1, h.g2, h.b8⟩
theorem FSt.fed {w0 w w1 : World} {gf g B M : Nat} {q q1 : List Int} {bad : Bool} (h : FSt w0 gf g B M q bad w) (hf : FlowW w1 gf g B M q1 bad) (hr : Fr2 g B w w1) (h8 : B8 q1) : FSt w0 gf g B M q1 bad w1 := ⟨hf, hr.below h.b h.b.size h.g1 h.g2, h.g0, h.g1, h.g2, h8⟩
theorem FSt.next {w0 w w1 : World} {gf g B M : Nat} {q q1 : List Int} {bad b1 : Bool} (h : FSt w0 gf g B M q bad w) (hf : FlowW w1 gf g B M q1 b1) (hr : Fr3 gf g B w w1) (h8 : B8 q1) : FSt w0 gf g B M q1 b1 w1 := ⟨hf, hr.below h.b h.b.size h.g0 h.g1 h.g2, h.g0, h.g1, h.g2, h8⟩
theorem b8_app {a b : List Int} (ha : B8 a) (hb : B8 b) : B8 (a ++ b) := fun x hx => (List.mem_append.1 hx).elim (ha x) (hb x)
theorem b8_take {a : List Int} (ha : B8 a) (n : Nat) : B8 (a.take n) := fun x hx => ha x (List.mem_of_mem_take hx)
theorem feed_b (w : World) (gf g B M : Nat) (q : List Int) (bad : Bool) (h : FlowW w gf g B M q bad) (g1 n : Nat) (l : List Int) (hn : n = l.length) (hc : w.heap[g1]? = some (.cells (bv l) 5 (0, 0))) (hl : n ≤ 100000) (hne : g1 ≠ B) (m : Nat) (hm : m = if bad then 0 else min n (M - q.length)) :
    Calls Try.prog 35 #[.pointer (some ⟨gf, 0, none⟩), .slice (some ⟨g1, 0, none⟩) n n] w fun e w' => e = .returned (.int .i64 (m : Int)) ∧ FlowW w' gf g B M (q ++ l.take m) bad ∧ Fr2 g B w w' := by
  refine flow_Feed w gf g B M q bad h _ n n l hn ?_ (Nat.le_refl _) (fun _ a ha => by injection ha with ha; subst ha; exact hne) m hm
  have := C_bytes hc 0 n (by omega) (by omega)
  rwa [List.drop_zero, hn, List.take_length, ← hn] at this
set_option maxRecDepth 100000 in
theorem law10_awake (w : World) : Calls Try.prog 32 #[] w fun e w' => e = .returned (.bool true) ∧ Below w.heap.size w w' := by
  have hu53 := Try.underlying53
  have hu30 := Try.underlying30
  have k1 : firstOf cutl [0, 1, 0, 0] false = (0, 0, [], 0, 3) := by decide
  have k2 : firstOf cutl [0, 1, 0, 0, 0, 2, 9, 7] false = (1, 9, [7], 8, 0) := by decide
  have K1 := Lib.hid k1
  have K2 := Lib.hid k2
  clear k1 k2
  go_enter Try.func32, Try.ntmps32
  go_wp2_with (fail)
  refine (flow_New 300 300 rfl _).mono ?_
  rintro e w1 ⟨gf, g, B, rfl, hf, h1, h2, h3, hb⟩
  have S1 := Lib.hid (show FSt w gf g B 300 [] false w1 from ⟨hf, hb, h1, h2, h3, fun x hx => by cases hx⟩)
  clear hf h1 h2 h3 hb
  go_wp2_with (fail)
  refine (feed_b _ gf g B 300 [] false (S1.out.f.below ((Below.refl _ _).alloc (Nat.le_refl _) _)) w1.heap.size 4 [0, 1, 0, 0] rfl (blk_new w1 (.cells (bv [0, 1, 0, 0]) 5 (0, 0))) (by omega) (by have := S1.out.f.r.lt; omega) 4 rfl).mono ?_
  rintro e w2 ⟨rfl, hf, hr⟩
  have S2 := Lib.hid ((S1.out.below ((Below.refl _ _).alloc (Nat.le_refl _) _)).fed hf hr (by intro x hx; simp at hx; omega))
  clear S1 hf hr
  go_wp2_with (fail)
  refine (flow_Next cutl _ gf g B 300 _ false S2.out.f (cut_is _ S2.out.b8) 0 0 [] 0 3 K1.out).mono ?_
  rintro e w3 ⟨A, c, rfl, hR, hf, hr⟩
  rw [show nextOf cutl ([] ++ [0, 1, 0, 0].take 4) false = ([0, 1, 0, 0], false) from by decide] at hf
  have S3 := Lib.hid (S2.out.next hf hr (by intro x hx; simp at hx; omega))
  clear S2 hf hr hR
  go_wp2_with (fail)
  have hb3 : Below w3.heap.size w3 ((w3.alloc (.cells #[.int .i64 0, .int .i64 0, .slice A 0 c] 53)).alloc (.cells #[.int .u8 0, .int .u8 2, .int .u8 9, .int .u8 7] 5)) := ((Below.refl _ _).alloc (Nat.le_refl _) _).alloc (by simp) _
  refine (feed_b _ gf g B 300 [0, 1, 0, 0] false (S3.out.f.below hb3) (w3.heap.size + 1) 4 [0, 2, 9, 7] rfl (by have := blk_new (w3.alloc (.cells #[.int .i64 0, .int .i64 0, .slice A 0 c] 53)) (.cells #[.int .u8 0, .int .u8 2, .int .u8 9, .int .u8 7] 5 (0, 0)); rwa [show (w3.alloc (.cells #[.int .i64 0, .int .i64 0, .slice A 0 c] 53)).heap.size = w3.heap.size + 1 by simp] at this) (by omega) (by have := S3.out.f.r.lt; omega) 4 rfl).mono ?_
  rintro e w4 ⟨rfl, hf, hr⟩
  have S4 := Lib.hid ((S3.out.below hb3).fed hf hr (by intro x hx; simp at hx; omega))
  clear S3 hf hr hb3
  go_wp2_with (fail)
  refine (flow_Next cutl _ gf g B 300 _ false S4.out.f (cut_is _ S4.out.b8) 1 9 [7] 8 0 K2.out).mono ?_
  rintro e w5 ⟨A5, c5, rfl, hR, hf, hr⟩
  rw [show nextOf cutl ([0, 1, 0, 0] ++ [0, 2, 9, 7].take 4) false = ([], false) from by decide] at hf
  have S5 := Lib.hid (S4.out.next hf hr (by intro x hx; cases hx))
  have hs : ∀ (o : Obj), (convert 30 9 (.slice A5 1 c5)).run Try.prog (w5.alloc o) = .ok (.string (strOfNums [7])) (w5.alloc o) := fun o => Kd.C_string (P := Try.prog) Try.underlying30 Try.underlying5 Try.underlying9 (A := A5) (c := c5) (Kd.C_alloc (Kd.R_reads' hR).2.2 o)
  have hq : (strOfNums [7]).toList = [7] := by decide +kernel
  clear S4 hf hr hR
  go_wp2_with (fail)
  refine (flow_Held _ gf g B 300 [] false (S5.out.f.below ((Below.refl _ _).alloc (Nat.le_refl _) _))).mono ?_
  rintro e w6 ⟨rfl, hb⟩
  go_wp2
  go_ret
  exact ⟨rfl, below_then (S5.out.b.alloc S5.out.b.size _) (by have := S5.out.b.size; simp; omega) hb⟩
end Go.Proofs.Ytakiojmjalbfpaa.Ring
set_option linter.unusedVariables false
set_option linter.unusedSimpArgs false
namespace Go.Proofs.Ytakiojmjalbfpaa.Ring
open Go.RowKit Go.Proofs.YtakiojmjalbfpaaW.PrintWords Go.Proofs.YtakiojmjalbfpaaW.PrintLast Go.Proofs.YtakiojmjalbfpaaW.PrintMore Go.Proofs.Ytakiojmjalbfpaa.PFlow Go.Proofs.Ytakiojmjalbfpaa.Num Go.Proofs.Ytakiojmjalbfpaa.LemHeadFlow Go.Proofs.Ytakiojmjalbfpaa.LemAduFlow
attribute [local go_sem] plus_setCell_drewN plus_cell_same
theorem room_frame (u : Int) (h0 : 0 ≤ u ∧ u < 256) (K2 : Nat) (hK : K2 = 253) : ∃ fr p : List Int, fr.length = 260 ∧ p.length = 253 ∧ B8 fr ∧ firstOf cutl fr false = (0, u, p, 260, 0) ∧ nextOf cutl fr false = ([], false) ∧
    ∀ (W : World) (A : Option Addr) (c : Nat), Kd.C (Kd.int .u8) W A K2 (List.replicate K2 0) → K2 ≤ c → Calls Try.prog 34 #[.agg #[.int .i64 0, .int .i64 u, .slice A K2 c]] W fun e w' => ∃ A1 c1, e = .returned (.tuple #[.slice A1 260 c1, .int .i64 0]) ∧ Kd.R (Kd.int .u8) 5 w' W.heap.size (fun _ => True) (.slice A1 260 c1) fr ∧ Below W.heap.size W w' := by
  obtain ⟨p, hp⟩ : ∃ p : List Int, p = List.replicate K2 0 := ⟨_, rfl⟩
  have hl : p.length = 253 := by rw [hp, List.length_replicate, hK]
  have hp8 : B8 p := by intro x hx; rw [hp] at hx; have := List.eq_of_mem_replicate hx; omega
  have hok : Ok 0 ((p.length : Int) + 1) u := by unfold Ok; omega
  have hfl : (hb 0 ((p.length : Int) + 1) u ++ p).length = 260 := by rw [List.length_append, hb_length, hl]
  have hcut := cut_frame 0 u p [] hok
  rw [List.append_nil] at hcut
  have hF : firstOf cutl (hb 0 ((p.length : Int) + 1) u ++ p) false = (0, u, p, 260, 0) := by
    show cutl ((hb 0 ((p.length : Int) + 1) u ++ p).take 260) = _
    rw [List.take_of_length_le (by omega), hcut, hl]
    rfl
  refine ⟨_, p, hfl, hl, frame_b8 0 u p hok hp8, hF, ?_, fun W A c hC hc => ?_⟩
  · unfold nextOf
    rw [hF]
    show (if (0 : Int) = 2 then _ else _) = _
    rw [if_neg (by omega), List.drop_eq_nil_of_le (by rw [hfl]; exact Nat.le_refl _)]
  · rw [← hp] at hC
    have hKl : K2 = p.length := by omega
    subst hKl
    refine (busbarref5_FrameBytes.calls 10 0 u A c p _ 0 W hC hc (refbytes_ok 0 u p (by omega) hok (by omega))).mono ?_
    rintro e w1 ⟨v, rfl, hR, hb⟩
    obtain ⟨A1, c1, rfl⟩ := Kd.R_slice hR
    rw [hfl] at hR ⊢
    exact ⟨A1, c1, rfl, hR, hb⟩
attribute [local go_sem] max2_int min2_int max_two min_two
set_option maxRecDepth 100000 in
set_option maxHeartbeats 4000000 in
theorem FlowRoom_calls (p0 : Int) (near : Bool) (p2 : Int) (w : World) : Calls Try.prog 7 #[.int .i64 p0, .bool near, .int .i64 p2] w fun e w' => e = .returned (.bool true) ∧ Below w.heap.size w w' := by
  have hu53 := Try.underlying53
  have hu60 := Try.underlying60
  have hu30 := Try.underlying30
  go_enter Try.func7, Try.ntmps7
  go_wp2_with (fail)
  refine (law10_awake _).mono ?_
  rintro e w1 ⟨rfl, hb⟩
  have A1 := Lib.hid hb
  clear hb
  go_upto_if 16 with (fail)
  go_cut [0] (fun v0 wc => ∃ x : Int, v0 = .int .i64 x ∧ Aside0 (Below w.heap.size w wc))
  case first =>
    cases near
    · go_wp2
      go_meet
      exact ⟨p0, rfl, ⟨A1.out⟩⟩
    · go_wp2_with (fail)
      refine (within_b p0 600 (by omega) (by omega) _).mono ?_
      rintro e w2 ⟨rfl, hb⟩
      have A3 := Lib.hid (below_then A1.out A1.out.size hb)
      clear hb
      go_wp2
      go_meet
      exact ⟨_, rfl, ⟨A3.out⟩⟩
  case rest =>
  obtain ⟨x, rfl, HB⟩ := hcut
  obtain ⟨M, hM⟩ : ∃ M, M = (min (max x 260) 65536).toNat := ⟨_, rfl⟩
  have hM2 : 260 ≤ M ∧ M ≤ 65536 := by omega
  have i1 : (if x < 260 then (260 : Int) else x) = max x 260 := by split <;> omega
  obtain ⟨x1, hx1⟩ : ∃ x1 : Int, x1 = max x 260 := ⟨_, rfl⟩
  rw [← hx1] at i1
  have i2 : (if (65536 : Int) < x1 then (65536 : Int) else x1) = (M : Int) := by split <;> omega
  have HM := Lib.hid hM
  have HM2 := Lib.hid hM2
  have I1 := Lib.hid i1
  have I2 := Lib.hid i2
  obtain ⟨u, hu⟩ : ∃ u, u = p2 % 256 := ⟨_, rfl⟩
  have hu0 : 0 ≤ u ∧ u < 256 := by omega
  have HU := Lib.hid hu
  have HU0 := Lib.hid hu0
  obtain ⟨K, hK⟩ : ∃ K : Nat, K = 70000 := ⟨_, rfl⟩
  have hmk := run_make_row' (P := Try.prog) 30 5 (.int .u8 0) 1 Try.underlying30 (by kernel_rfl) rfl .i64 .i64 K (by omega) (by omega)
  rw [show ((K : Nat) : Int) = 70000 by omega] at hmk
  obtain ⟨K2, hK2⟩ : ∃ K2 : Nat, K2 = 253 := ⟨_, rfl⟩
  have hmk2 := run_make_row' (P := Try.prog) 30 5 (.int .u8 0) 1 Try.underlying30 (by kernel_rfl) rfl .i64 .i64 K2 (by omega) (by omega)
  rw [show ((K2 : Nat) : Int) = 253 by omega] at hmk2
  have HK := Lib.hid hK
  have HK2 := Lib.hid hK2
  clear hM hM2 i1 i2 hu hu0 hK hK2 hx1 A1
  go_wp2_with (fail)
  refine (flow_New x M HM.out _).mono ?_
  rintro e w3 ⟨gf, g, B, rfl, hf, h1, h2, h3, hb⟩
  have S1 := Lib.hid (show FSt w gf g B M [] false w3 from ⟨hf, below_then HB.out HB.out.size hb, by have := HB.out.size; omega, by have := HB.out.size; omega, by have := HB.out.size; omega, fun x hx => by cases hx⟩)
  clear hf h1 h2 h3 hb HB
  go_wp2_with (fail)
  obtain ⟨fr, p, hfl, hpl, hf8, hF, hN, hfc⟩ := room_frame u HU0.out K2 HK2.out
  have F1 := Lib.hid hfl
  have F2 := Lib.hid hpl
  have F3 := Lib.hid hf8
  have F4 := Lib.hid hF
  have F5 := Lib.hid hN
  have F6 := Lib.hid hfc
  clear hfl hpl hf8 hF hN hfc
  go_region_law (first | (go_simp; go_at_call 12; refine (within_b p2 256 (by omega) (by omega) _).mono ?_; rintro e w4 ⟨rfl, hb⟩; rw [← HU.out]; have hb4 := Lib.hid hb; clear hb) | (go_simp; go_at_call 34; refine (F6.out _ _ K2 (by first | exact C_tail (f := 0) (made_blk w4 K2) (by simp) (by have := HK2.out; omega) (fun _ => rfl) | exact C_tail (f := 0) (blk_below (made_blk w3.drew K2) hb4.out) (by simp) (by have := HK2.out; omega) (fun _ => rfl)) (Nat.le_refl _)).mono ?_; rintro e w5 ⟨A1, c1, rfl, hR, hb⟩; have R5 := Lib.hid hR; have Z5 := Lib.hid hb.size; have S5 := Lib.hid ((by first | exact ((S1.out.below (below_drew (Below.refl _ _))).below hb4.out).below ((Below.refl _ _).alloc (Nat.le_refl _) _) | exact ((S1.out.below (below_drew (Below.refl _ _))).below ((Below.refl _ _).alloc (Nat.le_refl _) _)).below hb4.out : FSt w gf g B M [] false _).below hb); have L5 := Lib.hid (show B < w5.heap.size ∧ w3.heap.size ≤ w5.heap.size from by have h1 := S5.out.f.r.lt; have h2 := S1.out.b.size; have h3 := hb4.out.size; have h4 := hb.size; simp at h3 h4; omega); have P5 := Lib.hid (R_args hR (show B < _ from by have h1 := S1.out.f.r.lt; have h3 := hb4.out.size; simp at h3 ⊢; omega)); clear hR hb))
  all_goals
    go_wp2_with (fail)
    refine (flow_Feed _ gf g B M [] false S5.out.f A1 260 c1 fr F1.out.symm (by have := P5.out.2.2.1; rwa [F1.out] at this) (by have := P5.out.2.1; rwa [F1.out] at this) (fun h0 => P5.out.2.2.2 (by rw [F1.out]; exact h0)) 260 (by have := HM2.out; simp; omega)).mono ?_
    rintro e w6 ⟨rfl, hf, hr⟩
    rw [List.nil_append, show fr.take 260 = fr from List.take_of_length_le (by rw [F1.out]; exact Nat.le_refl _)] at hf
    have S6 := Lib.hid (S5.out.fed hf hr F3.out)
    clear S5 R5 P5 L5 hf hr
    go_wp2_with (fail)
    refine (flow_Next cutl _ gf g B M fr false S6.out.f (cut_is _ S6.out.b8) 0 u p 260 0 F4.out).mono ?_
    rintro e w7 ⟨A7, c7, rfl, hR, hf, hr⟩
    rw [F2.out]
    rw [F5.out] at hf
    have S7 := Lib.hid (S6.out.next hf hr (by intro x hx; cases hx))
    clear S6 hR hf hr
    go_wp2_with (fail)
    have hb7 : Below w7.heap.size w7 ((w7.alloc (.cells #[.int .i64 0, .int .i64 u, .slice A7 253 c7] 53)).alloc (.cells (madeCells #[.int .u8 0] K) 5)) := ((Below.refl _ _).alloc (Nat.le_refl _) _).alloc (by simp) _
    have hx7 := blk_alloc (blk_new w7 (.cells #[.int .i64 0, .int .i64 u, .slice A7 253 c7] 53 (0, 0))) (.cells (madeCells #[.int .u8 0] K) 5)
    have X7 := Lib.hid hx7
    refine (feed_b _ gf g B M [] false (S7.out.f.below hb7) (w7.heap.size + 1) K (List.replicate K 0) (by simp) (by have := made_blk (w7.alloc (.cells #[.int .i64 0, .int .i64 u, .slice A7 253 c7] 53)) K; rwa [show (w7.alloc (.cells #[.int .i64 0, .int .i64 u, .slice A7 253 c7] 53)).heap.size = w7.heap.size + 1 by simp] at this) (by have := HK.out; omega) (by have := S7.out.f.r.lt; omega) M (by have := HK.out; have := HM2.out; simp; omega)).mono ?_
    rintro e w8 ⟨rfl, hf, hr⟩
    have hql : ([] ++ (List.replicate K (0 : Int)).take M).length = M := by simp; have := HK.out; have := HM2.out; omega
    have S8 := Lib.hid ((S7.out.below hb7).fed hf hr (b8_app (fun x hx => by cases hx) (b8_take (fun x hx => by have := List.eq_of_mem_replicate hx; omega) M)))
    have X8 := Lib.hid ((hr.block w7.heap.size (blk_lt X7.out) (by have := S7.out.f.r.lt; omega) (by have := S7.out.f.r.lt; omega)).trans X7.out)
    generalize [] ++ (List.replicate K (0 : Int)).take M = q8 at *
    have Q8 := Lib.hid hql
    obtain ⟨y0, y1, y2⟩ := blkc3 X8.out
    clear S7 hf hr hb7 hx7 hql X7
    have i1 := I1.out
    have i2 := I2.out
    go_wp2_with (fail)
    all_goals
      clear i1 i2
      refine (flow_Held _ gf g B M q8 false S8.out.f).mono ?_
      rintro e w9 ⟨rfl, hb⟩
      rw [Q8.out]
      go_wp2
      go_ret
      exact ⟨rfl, below_then S8.out.b S8.out.b.size hb⟩
end Go.Proofs.Ytakiojmjalbfpaa.Ring
namespace Go.Proofs.Ytakiojmjalbfpaa.PFlow
open Go.RowKit Go.Proofs.YtakiojmjalbfpaaW.PrintWords Go.Proofs.YtakiojmjalbfpaaW.PrintLast Go.Proofs.YtakiojmjalbfpaaW.PrintMore
attribute [local go_sem] max2_int min2_int max_two min_two max_three min_three max_four min_four plus_setCell_drewN plus_cell_same   -- for this text's walks alone
set_option linter.unusedVariables false
set_option linter.unusedSimpArgs false
def busbarlaw10_FlowRoom.f (a0 : Int) (a1 : Bool) (a2 : Int) : Option Bool := some true
theorem busbarlaw10_FlowRoom.calls (a0 : Int) (a1 : Bool) (a2 : Int) (r : Bool) (w : World) (h : busbarlaw10_FlowRoom.f a0 a1 a2 = some r) : Calls Try.prog 7 #[.int .i64 a0, .bool a1, .int .i64 a2] w fun e w' => e = .returned (.bool r) ∧ Below w.heap.size w w' := by
 obtain rfl := Option.some.inj h
 exact Go.Proofs.Ytakiojmjalbfpaa.Ring.FlowRoom_calls a0 a1 a2 w
def busbarlaw10_FlowRoom.Pure : Prop := ∀ (a0 : Int) (a1 : Bool) (a2 : Int), (Lit.int .i64 a0).wf = true → (Lit.int .i64 a2).wf = true → busbarlaw10_FlowRoom.f a0 a1 a2 = some true
theorem busbarlaw10_FlowRoom.walk (P : busbarlaw10_FlowRoom.Pure) (a0 : Int) (a1 : Bool) (a2 : Int) (w : World) (w0 : (Lit.int .i64 a0).wf = true) (w2 : (Lit.int .i64 a2).wf = true) :
  Calls Try.prog 7 #[.int .i64 a0, .bool a1, .int .i64 a2] w fun e w' => e = .returned (.bool true) ∧ Below w.heap.size w w' := by
 have h := P a0 a1 a2 w0 w2
 refine (busbarlaw10_FlowRoom.calls a0 a1 a2 true w h).mono ?_
 rintro e w' ⟨rfl, hd⟩
 exact ⟨rfl, hd⟩
end Go.Proofs.Ytakiojmjalbfpaa.PFlow
namespace Go.Proofs.Ytakiojmjalbfpaa.Pure
open Go.RowKit Go.Proofs.Ytakiojmjalbfpaa.PFlow
theorem FlowRoom : busbarlaw10_FlowRoom.Pure := by
  unfold busbarlaw10_FlowRoom.Pure
  intros
  rfl
end Go.Proofs.Ytakiojmjalbfpaa.Pure
