/- What adu.Bytes, adu.Cut and the document's answer (group Adu). -/
import Derived.Test.YtgbclemmadkcmaaPAdux0
import Derived.Test.YtgbclemmadkcmaaPAdux11
import Derived.Test.YtgbclemmadkcmaaPAdux12
import Derived.Test.YtgbclemmadkcmaaPAdux16
import Derived.Test.YtgbclemmadkcmaaPAdux4
import Derived.Test.YtgbclemmadkcmaaPAdux5
import Derived.Test.YtgbclemmadkcmaaPAdux8
import Derived.Test.YtgbclemmadkcmaaLemHead2Adu
set_option linter.unusedVariables false
set_option linter.unusedSimpArgs false
namespace Go.Proofs.Ytgbclemmadkcmaa.LemAduAdu
open Go.RowKit Go.Proofs.Ytgbclemmadkcmaa.PAdu Go.Proofs.YtgbclemmadkcmaaW.PrintWords Go.Proofs.YtgbclemmadkcmaaW.PrintLast Go.Proofs.YtgbclemmadkcmaaW.PrintMore Go.Proofs.Ytgbclemmadkcmaa.Num Go.Proofs.Ytgbclemmadkcmaa.LemHeadAdu Go.Proofs.Ytgbclemmadkcmaa.LemHead2Adu

theorem adu_awake : busbarlaw8_awake.f = some true := by decide +kernel
theorem hb_length (t l u : Int) : (hb t l u).length = 7 := rfl
theorem cnt_le (a b : Nat) (h : a ≤ b) : Kd.cnt a b = (a : Int) := by unfold Kd.cnt; rw [Nat.min_eq_left h]
theorem laid_two (h p : List Int) (n : Nat) (hh : h.length = 7) (hn : n = 7 + p.length) : Kd.laid (Kd.laid (List.replicate n 0) 0 (min h.length n) h) 7 (min p.length (n - 7)) p = h ++ p := by
  subst hn
  have e1 : Kd.laid (List.replicate (7 + p.length) (0 : Int)) 0 (min h.length (7 + p.length)) h = h ++ List.replicate p.length 0 := by
    unfold Kd.laid
    rw [hh, Nat.min_eq_left (by omega), List.take_zero, List.nil_append, Nat.zero_add, List.drop_replicate, List.take_of_length_le (by omega), show 7 + p.length - 7 = p.length by omega]
  rw [e1]
  unfold Kd.laid
  rw [show 7 + p.length - 7 = p.length by omega, Nat.min_self, List.take_length, List.take_append_of_le_length (by omega), List.take_of_length_le (by omega), List.drop_eq_nil_of_le (by rw [List.length_append, List.length_replicate]; omega), List.append_nil]
theorem bytes_ok (t u : Int) (p : List Int) (hp : p.length ≤ 10000) (h : Ok t ((p.length : Int) + 1) u) : adu_Bytes.f t u p = some (hb t ((p.length : Int) + 1) u ++ p, 0) := by
  unfold adu_Bytes.f
  have e7 : (wrap64 (7 + (p.length : Int)) : Int).toNat = 7 + p.length := by rw [wrap64_id (by omega) (by omega)]; omega
  rw [wrap64_id (x := (p.length : Int) + 1) (by omega) (by omega), put_ok _ _ _ h, Option.bind_some, if_pos rfl, if_pos (by rw [wrap64_id (by omega) (by omega)]; omega), if_pos (by rw [e7]; omega), Option.bind_some]
  dsimp only
  rw [e7, if_pos (by rw [List.length_replicate]; omega), Option.bind_some, List.length_replicate]
  have hll : (Kd.laid (List.replicate (7 + p.length) 0) 0 (min (hb t ((p.length : Int) + 1) u).length (7 + p.length)) (hb t ((p.length : Int) + 1) u)).length = 7 + p.length := by
    rw [Kd.laid_length _ _ _ _ (by rw [List.length_replicate, hb_length]; omega) (by rw [hb_length]; omega), List.length_replicate]
  rw [hll, List.length_drop, hll, hb_length, cnt_le 7 (7 + p.length) (by omega), if_pos (by omega), if_pos (by omega), if_pos (by omega), show ((7 : Nat) : Int).toNat = 7 from rfl]
  have h2 := laid_two (hb t ((p.length : Int) + 1) u) p (7 + p.length) rfl rfl
  rw [hb_length] at h2
  rw [h2]
theorem bytes_no (t u : Int) (p : List Int) (hp : p.length ≤ 10000) (h : ¬ Ok t ((p.length : Int) + 1) u) : adu_Bytes.f t u p = some ([], 1) := by
  unfold adu_Bytes.f
  rw [wrap64_id (x := (p.length : Int) + 1) (by omega) (by omega), put_no _ _ _ h, Option.bind_some, if_neg (by decide)]
theorem refbytes_ok (t u : Int) (p : List Int) (hp : p.length ≤ 10000) (h : Ok t ((p.length : Int) + 1) u) {k : Nat} (hk : 4 ≤ k) : busbarref5_FrameBytes.f k t u p = some (hb t ((p.length : Int) + 1) u ++ p, 0) := by
  obtain ⟨k, rfl⟩ : ∃ m, k = m + 1 := ⟨k - 1, by omega⟩
  have h' := h
  unfold Ok at h'
  unfold busbarref5_FrameBytes.f
  rw [if_neg (by omega), decide_eq_false (by omega), busbarref5_FrameBytes.j0, if_neg (by decide), wrap64_id (x := (p.length : Int) + 1) (by omega) (by omega), refput_ok _ _ _ h (by omega), Option.bind_some, if_pos rfl, if_pos (by rw [hb_length]; omega)]
theorem refbytes_no (t u : Int) (p : List Int) (hp : p.length ≤ 10000) (h : ¬ Ok t ((p.length : Int) + 1) u) {k : Nat} (hk : 4 ≤ k) : busbarref5_FrameBytes.f k t u p = some ([], 1) := by
  obtain ⟨k, rfl⟩ : ∃ m, k = m + 1 := ⟨k - 1, by omega⟩
  unfold busbarref5_FrameBytes.f
  by_cases h1 : (p.length : Int) < 1
  · rw [if_pos h1, busbarref5_FrameBytes.j0, if_pos rfl]
  · rw [if_neg h1]
    by_cases h2 : (p.length : Int) > 253
    · rw [decide_eq_true h2, busbarref5_FrameBytes.j0, if_pos rfl]
    · rw [decide_eq_false h2, busbarref5_FrameBytes.j0, if_neg (by decide), wrap64_id (x := (p.length : Int) + 1) (by omega) (by omega), refput_no _ _ _ h (by omega), Option.bind_some, if_neg (by decide)]
def cutl (l : List Int) : Int × Int × List Int × Int × Int :=
  if (hlook l).2.2.2 = 0 then (if (l.length : Int) < 6 + (hlook l).2.1 then (0, 0, [], 0, 3) else ((hlook l).1, (hlook l).2.2.1, (l.take (6 + (hlook l).2.1).toNat).drop 7, 6 + (hlook l).2.1, 0)) else (0, 0, [], 0, (hlook l).2.2.2)
theorem hlook_le (l : List Int) (h : (hlook l).2.2.2 = 0) : 2 ≤ (hlook l).2.1 ∧ (hlook l).2.1 ≤ 254 := by
  by_cases h6 : l.length < 6
  · rw [hlook_few l h6] at h; simp at h
  · obtain ⟨b0, b1, b2, b3, b4, b5, r, rfl⟩ := six l (by omega)
    match r with
    | [] =>
      rw [hlook6] at h
      split at h <;> simp at h
    | b6 :: r =>
      rw [hlook7] at h ⊢
      split at h
      · rename_i hc
        rw [if_pos hc]
        exact hc.2
      · simp at h
theorem cut_eq (l : List Int) (hl : l.length ≤ 100000) (hb : B8 l) {k : Nat} (hk : 2 ≤ k) : adu_Cut.f k l = some (cutl l) := by
  unfold adu_Cut.f cutl
  rw [get_eq l hl hb hk, Option.bind_some]
  by_cases h0 : (hlook l).2.2.2 = 0
  · have h1 := hlook_le l h0
    rw [if_pos h0, if_pos h0, wrap64_id (by omega) (by omega)]
    by_cases h2 : (l.length : Int) < 6 + (hlook l).2.1
    · rw [if_pos h2, if_pos h2]
    · rw [if_neg h2, if_neg h2, if_pos (by omega), if_pos (by omega)]
      unfold slices_Clone_byte_byte.f
      rw [if_pos (by rw [List.length_drop, List.length_take]; omega), Option.bind_some]
  · rw [if_neg h0, if_neg h0]
theorem refcut_eq (l : List Int) (hl : l.length ≤ 100000) (hb : B8 l) {k : Nat} (hk : 2 ≤ k) : busbarref5_Cut.f k l = some (cutl l) := by
  unfold busbarref5_Cut.f cutl
  rw [refgethead_eq l hl hb hk, Option.bind_some]
  by_cases h0 : (hlook l).2.2.2 = 0
  · have h1 := hlook_le l h0
    rw [if_pos h0, if_pos h0, wrap64_id (by omega) (by omega)]
    by_cases h2 : (l.length : Int) < 6 + (hlook l).2.1
    · rw [if_pos h2, if_pos h2]
    · rw [if_neg h2, if_neg h2, if_pos (by omega), if_pos (by omega), if_pos (by rw [List.length_drop, List.length_take, List.length_nil]; omega), List.nil_append]
  · rw [if_neg h0, if_neg h0]
theorem cut_frame (t u : Int) (p m : List Int) (h : Ok t ((p.length : Int) + 1) u) : cutl (hb t ((p.length : Int) + 1) u ++ p ++ m) = (t, u, p, 7 + (p.length : Int), 0) := by
  unfold cutl
  rw [List.append_assoc, hlook_hb _ _ _ h, if_pos rfl, if_neg (by simp only [List.length_append, hb_length]; omega)]
  have e : (6 + ((p.length : Int) + 1)).toNat = 7 + p.length := by omega
  dsimp only
  rw [e, List.take_append, hb_length, show 7 + p.length - 7 = p.length by omega, List.take_of_length_le (by rw [hb_length]; omega), List.take_append_of_le_length (by omega), List.take_length, List.drop_append, hb_length, Nat.sub_self, List.drop_zero, List.drop_eq_nil_of_le (by rw [hb_length]; omega), List.nil_append]
  congr 3
  congr 1
  omega
theorem cut_front (t u : Int) (p : List Int) (h : Ok t ((p.length : Int) + 1) u) (n : Nat) (hn : n < 7 + p.length) : cutl ((hb t ((p.length : Int) + 1) u ++ p).take n) = (0, 0, [], 0, 3) := by
  by_cases h7 : n < 7
  · have e : hlook ((hb t ((p.length : Int) + 1) u ++ p).take n) = (0, 0, 0, 3) := by
      by_cases h6 : n < 6
      · exact hlook_few _ (by rw [List.length_take]; omega)
      · obtain rfl : n = 6 := by omega
        have h' := h
        unfold Ok at h'
        simp only [hb, List.cons_append, List.nil_append, List.take_succ_cons, List.take_zero, hlook]
        rw [if_pos (by omega)]
    unfold cutl
    rw [e, if_neg (by decide)]
  · have e : (hb t ((p.length : Int) + 1) u ++ p).take n = hb t ((p.length : Int) + 1) u ++ p.take (n - 7) := by
      rw [List.take_append, hb_length, List.take_of_length_le (by rw [hb_length]; omega)]
    unfold cutl
    rw [e, hlook_hb _ _ _ h, if_pos rfl, if_pos (by simp only [List.length_append, List.length_take, hb_length]; omega)]
theorem frame_b8 (t u : Int) (p : List Int) (h : Ok t ((p.length : Int) + 1) u) (hp : B8 p) : B8 (hb t ((p.length : Int) + 1) u ++ p) := by
  intro x hx
  rcases List.mem_append.1 hx with h1 | h1
  · exact hb_b8 _ _ _ h x h1
  · exact hp x h1
end Go.Proofs.Ytgbclemmadkcmaa.LemAduAdu
