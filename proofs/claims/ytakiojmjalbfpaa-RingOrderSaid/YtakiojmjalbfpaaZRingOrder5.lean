/- Words and walks for RingOrder (made of the session's own texts; each part by itself). -/
import Derived.BigRegion
import Derived.Test.YtakiojmjalbfpaaZRingOrder4
set_option linter.unusedVariables false
set_option linter.unusedSimpArgs false
namespace Go.Proofs.Ytakiojmjalbfpaa.Ring
open Go.RowKit Go.Proofs.YtakiojmjalbfpaaW.PrintWords Go.Proofs.YtakiojmjalbfpaaW.PrintLast Go.Proofs.YtakiojmjalbfpaaW.PrintMore
attribute [local go_sem] plus_setCell_drewN plus_cell_same
theorem ring_Look2 (w : World) (g B M : Nat) (q : List Int) (h : RingW w g B M q) (n : Int) (k : Nat) (hk : k = (q.take n.toNat).length) :
    Calls Try.prog 21 #[.pointer (some ⟨g, 0, none⟩), .int .i64 n] w fun e w' => ∃ A c, e = .returned (.slice A k c) ∧ Kd.R (Kd.int .u8) 5 w' w.heap.size (fun _ => True) (.slice A k c) (q.take n.toNat) ∧ Below w.heap.size w w' := by
  refine (ring_Look w g B M q h n).mono ?_
  rintro e w1 ⟨v, rfl, hR, hb⟩
  obtain ⟨Ao, co, eo⟩ := Kd.R_slice hR
  subst eo
  rw [← hk] at hR ⊢
  exact ⟨_, _, rfl, hR, hb⟩
set_option maxRecDepth 100000 in
theorem ring_Take (w : World) (g B M : Nat) (q : List Int) (h : RingW w g B M q) (n : Int) (k : Nat) (hk : k = (q.take n.toNat).length) :
    Calls Try.prog 23 #[.pointer (some ⟨g, 0, none⟩), .int .i64 n] w fun e w' => ∃ A c, e = .returned (.slice A k c) ∧ Kd.R (Kd.int .u8) 5 w' w.heap.size (fun _ => True) (.slice A k c) (q.take n.toNat) ∧ RingW w' g B M (q.drop n.toNat) ∧ Fr2 g B w w' := by
  have hu76 := Try.underlying76
  have hu30 := Try.underlying30
  have H := Lib.hid h
  have hlt := h.lt
  have hle := h.le
  have hgB := h.ne
  have hkq : k ≤ q.length := by rw [hk, List.length_take]; omega
  have HK := Lib.hid hk
  obtain ⟨f, bs, hg, hB, hl, hM, hq, hf, hc⟩ := h.ex
  have HG := Lib.hid hg
  have HBB := Lib.hid hB
  have HL := Lib.hid hl
  have HC := Lib.hid hc
  clear hk h hg hB hl hc
  by_cases hk0 : 0 < k
  · have hd : decide (0 < (k : Int)) = true := decide_eq_true (by omega)
    have R1 := Lib.hid (show ((f : Int) + (k : Int)) % (M : Int) = (((f + k) % M : Nat) : Int) by rw [Int.natCast_emod, Int.natCast_add])
    have R2 := Lib.hid (show (q.length : Int) - (k : Int) = ((q.length - k : Nat) : Int) by omega)
    have hM0 : ¬ (M : Int) = 0 := by omega
    go_enter Try.func23, Try.ntmps23
    go_wp2_with (go_at_call 21; refine (ring_Look2 w g B M q H.out n k HK.out).mono ?_; rintro e w1 ⟨A, c, rfl, hR, hb⟩)
    have HR := Lib.hid hR
    have HB := Lib.hid hb
    have D1 := Lib.hid (blk_below HG.out hb)
    have D2 := Lib.hid (blk_below HBB.out hb)
    clear hR hb
    obtain ⟨c0, c1, c2⟩ := blkc3 D1.out
    obtain ⟨f0, f1, f2⟩ := blkf3 D1.out
    go_region
    go_wp2
    go_ret
    have hfin1 := blk_put (blk_put (blk_drew D1.out) 1 (.int .i64 (((f : Int) + (k : Int)) % (M : Int))) rfl) 2 (.int .i64 ((q.length : Int) - (k : Int))) rfl
    have hfin2 := blk_far (blk_far (blk_drew D2.out) (show B ≠ (⟨g, 1, none⟩ : Addr).block from fun e => hgB e.symm) (.int .i64 (((f : Int) + (k : Int)) % (M : Int)))) (show B ≠ (⟨g, 2, none⟩ : Addr).block from fun e => hgB e.symm) (.int .i64 ((q.length : Int) - (k : Int)))
    have hfin3 := Kd.R_far (Kd.R_far (Kd.R_drew (Kd.R_bound HR.out)) (p := ⟨g, 1, none⟩) (fun k_ h_ => by have := h_.2.1; show k_ ≠ g; omega) (.int .i64 (((f : Int) + (k : Int)) % (M : Int)))) (p := ⟨g, 2, none⟩) (fun k_ h_ => by have := h_.2.1; show k_ ≠ g; omega) (.int .i64 ((q.length : Int) - (k : Int)))
    have hfr : Fr2 g B w ((w1.drew.setCell ⟨g, 1, none⟩ (.int .i64 (((f : Int) + (k : Int)) % (M : Int)))).setCell ⟨g, 2, none⟩ (.int .i64 ((q.length : Int) - (k : Int)))) := (Fr2.of_below HB.out).trans ((Fr2.of_below (below_drew (Below.refl _ _))).trans ((Fr2.set _ _ _).trans (Fr2.set _ _ _)))
    have hkn : (q.take n.toNat).length = k := HK.out.symm
    rw [List.length_take] at hkn
    have hdr : q.drop n.toNat = q.drop k := by
      rcases Nat.lt_or_ge n.toNat q.length with h0 | h0
      · rw [show n.toNat = k by omega]
      · rw [List.drop_eq_nil_of_le (by omega), List.drop_eq_nil_of_le (by omega)]
    refine ⟨_, _, rfl, Kd.R_mono hfin3 (fun _ _ => trivial), ⟨(f + k) % M, bs, ?_, hfin2, HL.out, hM, by rw [List.length_drop]; omega, .inr (Nat.mod_lt _ (by omega)), ?_⟩, hfr⟩
    · rw [hdr, List.length_drop, ← R1.out, ← R2.out]
      exact hfin1
    · rw [hdr]
      exact take_list bs q f M k (by omega) HC.out
  · have hd : decide (0 < (k : Int)) = false := decide_eq_false (by omega)
    go_enter Try.func23, Try.ntmps23
    go_wp2_with (go_at_call 21; refine (ring_Look2 w g B M q H.out n k HK.out).mono ?_; rintro e w1 ⟨A, c, rfl, hR, hb⟩)
    go_ret
    refine ⟨_, _, rfl, hR, ?_, Fr2.of_below hb⟩
    have h1 := H.out.below hb
    have h2 := HK.out
    rw [List.length_take] at h2
    rcases Nat.eq_zero_or_pos n.toNat with h0 | h0
    · rw [h0, List.drop_zero]
      exact h1
    · have : q = [] := List.eq_nil_of_length_eq_zero (by omega)
      subst this
      rw [List.drop_nil]
      exact h1
end Go.Proofs.Ytakiojmjalbfpaa.Ring
set_option linter.unusedVariables false
set_option linter.unusedSimpArgs false
namespace Go.Proofs.Ytakiojmjalbfpaa.Ring
open Go.RowKit Go.Proofs.YtakiojmjalbfpaaW.PrintWords Go.Proofs.YtakiojmjalbfpaaW.PrintLast Go.Proofs.YtakiojmjalbfpaaW.PrintMore
attribute [local go_sem] plus_setCell_drewN plus_cell_same
theorem C_grown {w w1 : World} {A : Option Addr} {n : Nat} {l : List Int} {B : Nat} (h : Kd.C (Kd.int .u8) w A n l) (hg : w.grownBy w1 (some B)) (hne : ∀ a, A = some a → a.block ≠ B) : Kd.C (Kd.int .u8) w1 A n l := by
  refine ⟨h.1, h.2.1, fun h0 => ?_⟩
  obtain ⟨ad, rfl, hr⟩ := h.2.2 h0
  refine ⟨ad, rfl, fun j p hp => ?_⟩
  obtain ⟨c, h1, h2, h3⟩ := hr j p hp
  refine ⟨c, h1, h2, fun i u hu => ?_⟩
  have hb : (ad.add (j * (Kd.int .u8).sz + i)).block = ad.block := by unfold Addr.add; split <;> rfl
  exact cell_grown hg (h3 i u hu) (fun e => hne ad rfl (by rw [← hb]; injection e))
theorem C_take {w : World} {A : Option Addr} {n : Nat} {l : List Int} (h : Kd.C (Kd.int .u8) w A n l) (m : Nat) (hm : m ≤ n) : Kd.C (Kd.int .u8) w A m (l.take m) := by
  have := C_cut h 0 m (by omega) A (fun _ => by cases A <;> simp [Addr.add])
  rwa [List.drop_zero] at this
theorem C_skip {w : World} {A A1 : Option Addr} {n : Nat} {l : List Int} (h : Kd.C (Kd.int .u8) w A n l) (d : Nat) (hd : d ≤ n) (hA : 0 < n - d → A1 = A.map (·.add d)) : Kd.C (Kd.int .u8) w A1 (n - d) (l.drop d) := by
  have := C_cut h d (n - d) (by omega) A1 hA
  rwa [List.take_of_length_le (by rw [List.length_drop]; have := h.1; omega)] at this
theorem C_cell {w : World} {A : Option Addr} {n : Nat} {l : List Int} (h : Kd.C (Kd.int .u8) w A n l) {g : Nat} (hA : A = some ⟨g, 0, none⟩) (i : Nat) (x : Int) (hi : l[i]? = some x) : w.cell? ⟨g, i, none⟩ = some (.int .u8 x) := by
  have hlt := (List.getElem?_eq_some_iff.1 hi).1
  have hl := h.1
  obtain ⟨ad, e, hr⟩ := h.2.2 (by omega)
  rw [hA] at e
  injection e with e
  subst e
  obtain ⟨c, h1, h2, h3⟩ := hr i x hi
  obtain rfl : c = [Value.int .u8 x] := h2
  have := h3 0 _ rfl
  rw [show (Kd.int .u8).sz = 1 from rfl, Nat.mul_one, Nat.add_zero] at this
  rw [← this]
  congr 1
  unfold Addr.add
  split <;> simp_all
theorem cell_of_heap {w w1 : World} {a : Addr} (h : w1.heap[a.block]? = w.heap[a.block]?) : w1.cell? a = w.cell? a := by
  unfold World.cell?
  rw [h]
set_option maxRecDepth 100000 in
theorem ring_Put (w : World) (g B M : Nat) (q : List Int) (h : RingW w g B M q) (A0 : Option Addr) (c0 : Nat) (l : List Int) (hr : Kd.C (Kd.int .u8) w A0 l.length l) (hc0 : l.length ≤ c0) (hne : 0 < l.length → ∀ a, A0 = some a → a.block ≠ B) (m : Nat) (hm : m = min l.length (M - q.length)) :
    Calls Try.prog 18 #[.pointer (some ⟨g, 0, none⟩), .slice A0 l.length c0] w fun e w' => e = .returned (.int .i64 (m : Int)) ∧ RingW w' g B M (q ++ l.take m) ∧ Fr2 g B w w' := by
  have hu76 := Try.underlying76
  have hu30 := Try.underlying30
  have H := Lib.hid h
  have hlt := h.lt
  have hle := h.le
  have hgB := h.ne
  have HM := Lib.hid hm
  have HR := Lib.hid hr
  have HN := Lib.hid hne
  have hml : m ≤ l.length := by omega
  have hmc : m ≤ c0 := by omega
  have hl9 : l.length ≤ 9223372036854775807 := by have := hr.2.1; omega
  have hqm : q.length + m ≤ M := by omega
  have hch := cut_high A0 m l.length c0 hmc
  obtain ⟨r, hr_⟩ : ∃ r : Int, r = (M : Int) - q.length := ⟨_, rfl⟩
  have hmin : (m : Int) = min (l.length : Int) r := by omega
  have N1 := Lib.hid hr_
  have N2 := Lib.hid hmin
  obtain ⟨f, bs, hg, hB, hl, hM, hq, hf, hc⟩ := h.ex
  have HG := Lib.hid hg
  have HBB := Lib.hid hB
  have HL := Lib.hid hl
  have HC := Lib.hid hc
  clear hm h hg hB hl hc hr hr_ hne hmin
  by_cases hm0 : m = 0
  · subst hm0
    go_enter Try.func18, Try.ntmps18
    go_wp2_with (first | (go_at_call 26; refine (ring_Room w g B M q H.out).mono ?_; rintro e w1 ⟨rfl, nd, rfl⟩; rw [← N1.out]) | ((with_reducible refine gate_dst (N := 12) rfl ?_); refine wl_min rfl (.tmp 9) (.tmp 11) _ rfl .i64 l.length r 0 rfl rfl N2.out ?_))
    go_ret
    refine ⟨rfl, ?_, Fr2.of_below (pw_below_drewN (Below.refl _ _) _)⟩
    rw [List.take_zero, List.append_nil]
    exact H.out.below (pw_below_drewN (Below.refl _ _) _)
  · have hd : decide ((m : Int) = 0) = false := decide_eq_false (by omega)
    go_enter Try.func18, Try.ntmps18
    go_wp2_with (first | (go_at_call 26; refine (ring_Room w g B M q H.out).mono ?_; rintro e w1 ⟨rfl, nd, rfl⟩; rw [← N1.out]) | ((with_reducible refine gate_dst (N := 12) rfl ?_); refine wl_min rfl (.tmp 9) (.tmp 11) _ rfl .i64 l.length r m rfl rfl N2.out ?_))
    have D1 := Lib.hid (blk_drewN HG.out nd)
    have D2 := Lib.hid (blk_drewN HBB.out nd)
    have D3 := Lib.hid (Kd.C_drewN HR.out nd)
    have D4 : Hid (Fr2 g B w (w.drewN nd)) := Fr2.of_below (pw_below_drewN (Below.refl _ _) _)
    generalize w.drewN nd = w1 at *
    obtain ⟨c0_, c1, c2⟩ := blkc3 D1.out
    have hM0 : ¬ (M : Int) = 0 := by omega
    obtain ⟨t, ht⟩ : ∃ t, t = (f + q.length) % M := ⟨_, rfl⟩
    have htM : t < M := by rw [ht]; exact Nat.mod_lt _ (by omega)
    have hte : ((f : Int) + (q.length : Int)) % (M : Int) = (t : Int) := by rw [ht, Int.natCast_emod, Int.natCast_add]
    obtain ⟨A1, hA1, hsl⟩ := cut_low B t M M (by omega) (Nat.le_refl _)
    obtain ⟨d, hd_⟩ : ∃ d, d = min m (M - t) := ⟨_, rfl⟩
    obtain ⟨A2, hA2, hsl2⟩ := cut_low_any A0 d m c0 (by omega) hmc
    have T1 := Lib.hid ht
    have T2 := Lib.hid hA1
    have T3 := Lib.hid hd_
    have T4 := Lib.hid hA2
    clear ht hA1 hd_ hA2
    go_quiet (fail)
    rw [hte]
    clear hte
    have D5 := Lib.hid (blk_drewN D1.out nq)
    have D6 := Lib.hid (blk_drewN D2.out nq)
    have D7 := Lib.hid (Kd.C_drewN D3.out nq)
    have D8 := Lib.hid (D4.out.trans (Fr2.of_below (pw_below_drewN (Below.refl _ _) nq)))
    generalize w1.drewN nq = w2 at *
    clear c0_ c1 c2 D1 D2 D3 D4
    obtain ⟨c0_, c1, c2⟩ := blkc3 D5.out
    go_wp2_with ((with_reducible refine gate_builtin (b := .copy) (xs := #[.tmp 37, .tmp 38]) (ts := #[30, 30]) rfl ?_); refine wl_copy rfl (.tmp 37) (.tmp 38) 30 30 rfl Try.underlying30 (by kernel_rfl) B t (M - t) (M - t) m c0 _ _ bs (l.take m) d T3.out rfl rfl D6.out (fun h => T2.out (by have := T3.out; omega)) (by have := HL.out; omega) (C_take D7.out m hml) ?_; intro w3 hH hG)
    have E3 := Lib.hid hH
    have E1 := Lib.hid (blk_grown D5.out hG (by simp; exact hgB))
    have E2 := Lib.hid (C_grown (C_take D7.out m hml) hG (HN.out (by omega)))
    have E4 := Lib.hid (D8.out.trans (Fr2.of_grown hG (.inr (.inl rfl))))
    clear hH hG D5 D6 D7 D8 c0_ c1 c2
    obtain ⟨c0_, c1, c2⟩ := blkc3 E1.out
    go_region_law (refine wl_copy_step (by rfl) (.tmp 43) (.tmp 46) 30 30 rfl Try.underlying30 (by kernel_rfl) B 0 M M (m - d) (c0 - d) _ _ (Kd.laid bs t d (l.take m)) ((l.take m).drop d) (m - d) (by omega) rfl rfl E3.out (fun _ => rfl) (by rw [Kd.laid_length _ _ _ _ (by have := T3.out; have := HL.out; omega) (by rw [List.length_take]; have := T3.out; omega)]; have := HL.out; omega) (C_skip E2.out d (by have := T3.out; omega) T4.out) ?_; intro w4 hH hG; have F3 := Lib.hid hH; have F1 := Lib.hid (blk_grown (w := w3.drew) E1.out hG (by simp; exact hgB)); have F4 := Lib.hid ((E4.out.trans (Fr2.of_below (below_drew (Below.refl _ _)))).trans (Fr2.of_grown hG (.inr (.inl rfl)))); clear hH hG E1 E2 E3 E4 c0_ c1 c2)
    all_goals
      obtain ⟨c0_, c1, c2⟩ := blkc3 F1.out
      obtain ⟨f0_, f1_, f2_⟩ := blkf3 F1.out
      go_wp2
      go_ret
      have hfin1 := blk_put F1.out 2 (.int .i64 ((q.length : Int) + (m : Int))) rfl
      have hfin2 := blk_far F3.out (show B ≠ (⟨g, 2, none⟩ : Addr).block from fun e => hgB e.symm) (.int .i64 ((q.length : Int) + (m : Int)))
      have hlm : (q ++ l.take m).length = q.length + m := by rw [List.length_append, List.length_take, Nat.min_eq_left hml]
      refine ⟨rfl, ⟨f, _, ?_, hfin2, ?_, hM, by omega, hf, ?_⟩, F4.out.trans (Fr2.set _ _ _)⟩
      · rw [hlm, Int.natCast_add]
        exact hfin1
      · rw [Kd.laid_length _ _ _ _ (by rw [Kd.laid_length _ _ _ _ (by have := T3.out; have := HL.out; omega) (by rw [List.length_take]; have := T3.out; omega)]; have := HL.out; have := T3.out; omega) (by rw [List.length_drop, List.length_take]; have := T3.out; omega), Kd.laid_length _ _ _ _ (by have := T3.out; have := HL.out; omega) (by rw [List.length_take]; have := T3.out; omega)]
        exact HL.out
      · have := put_list bs q l f M m d HL.out hf hml hqm (by omega) (by rw [← T1.out]; exact T3.out) HC.out
        rw [← T1.out] at this
        exact this
end Go.Proofs.Ytakiojmjalbfpaa.Ring
namespace Go.Proofs.Ytakiojmjalbfpaa.PRing
open Go.RowKit Go.Proofs.YtakiojmjalbfpaaW.PrintWords Go.Proofs.YtakiojmjalbfpaaW.PrintLast Go.Proofs.YtakiojmjalbfpaaW.PrintMore
attribute [local go_sem] max2_int min2_int max_two min_two max_three min_three max_four min_four plus_setCell_drewN plus_cell_same   -- for this text's walks alone
set_option linter.unusedVariables false
set_option linter.unusedSimpArgs false
def busbarlaw0_Within.f (a0 : Int) (a1 : Int) : Option (Int) := if a1 = 0 then (none) else (if (Int.tmod a0 a1) < 0 then (some (wrap64 ((Int.tmod a0 a1) + a1))) else (some (Int.tmod a0 a1)))
set_option maxHeartbeats 8000000 in
set_option maxRecDepth 100000 in
theorem busbarlaw0_Within.calls (a0 : Int) (a1 : Int) (r : Int) (w : World) (h : busbarlaw0_Within.f a0 a1 = some r) :
  Calls Try.prog 12 #[.int .i64 a0, .int .i64 a1] w fun e w' => e = .returned (.int .i64 r) ∧ Drawn0 w w' := by
 have H : (if a1 = 0 then (none) else (if (Int.tmod a0 a1) < 0 then (some (wrap64 ((Int.tmod a0 a1) + a1))) else (some (Int.tmod a0 a1)))) = some r := h
 clear h
 by_cases c3 : a1 = 0
 ·
  rw [if_pos c3] at H
  exact absurd H (by simp)
 ·
  rw [if_neg c3] at H
  have c3b0 : (a1 == 0) = false := beq_eq_false_iff_ne.mpr c3
  have c3b1 : (a1 != 0) = true := bne_iff_ne.mpr c3
  by_cases c4 : (Int.tmod a0 a1) < 0
  ·
   rw [if_pos c4] at H
   have c4b0 : decide ((Int.tmod a0 a1) < 0) = true := decide_eq_true c4
   clear c4
   obtain rfl := Option.some.inj H
   go_enter Try.func12, Try.ntmps12
   go_wp2
   go_ret
   exact ⟨by first | rfl | (simp; done) | (simp [*]; done), by repeat (first | exact Drawn0.refl _ | apply Drawn0.step)⟩
  ·
   rw [if_neg c4] at H
   have c4b0 : decide ((Int.tmod a0 a1) < 0) = false := decide_eq_false c4
   clear c4
   obtain rfl := Option.some.inj H
   go_enter Try.func12, Try.ntmps12
   go_wp2
   go_ret
   exact ⟨by first | rfl | (simp; done) | (simp [*]; done), by repeat (first | exact Drawn0.refl _ | apply Drawn0.step)⟩
end Go.Proofs.Ytakiojmjalbfpaa.PRing
namespace Go.Proofs.Ytakiojmjalbfpaa.PRing
open Go.RowKit Go.Proofs.YtakiojmjalbfpaaW.PrintWords Go.Proofs.YtakiojmjalbfpaaW.PrintLast Go.Proofs.YtakiojmjalbfpaaW.PrintMore
attribute [local go_sem] max2_int min2_int max_two min_two max_three min_three max_four min_four plus_setCell_drewN plus_cell_same   -- for this text's walks alone
set_option linter.unusedVariables false
set_option linter.unusedSimpArgs false
def busbarlaw0_Digit.f (a0 : Int) (a1 : Int) (a2 : Int) : Option (Int) := if a1 = 0 then (none) else ((busbarlaw0_Within.f (wrap64 (Int.tdiv a0 a1)) a2).bind fun t113 => (some t113))
set_option maxHeartbeats 8000000 in
set_option maxRecDepth 100000 in
theorem busbarlaw0_Digit.calls (a0 : Int) (a1 : Int) (a2 : Int) (r : Int) (w : World) (h : busbarlaw0_Digit.f a0 a1 a2 = some r) :
  Calls Try.prog 15 #[.int .i64 a0, .int .i64 a1, .int .i64 a2] w fun e w' => e = .returned (.int .i64 r) ∧ Drawn0 w w' := by
 have H : (if a1 = 0 then (none) else ((busbarlaw0_Within.f (wrap64 (Int.tdiv a0 a1)) a2).bind fun t113 => (some t113))) = some r := h
 clear h
 by_cases c4 : a1 = 0
 ·
  rw [if_pos c4] at H
  exact absurd H (by simp)
 ·
  rw [if_neg c4] at H
  have c4b0 : (a1 == 0) = false := beq_eq_false_iff_ne.mpr c4
  have c4b1 : (a1 != 0) = true := bne_iff_ne.mpr c4
  replace H := Option.bind_eq_some_iff.mp H
  obtain ⟨t113, A50, H⟩ := H
  replace H : (some t113) = some r := H
  have A5 := Aside0.mk A50
  clear A50
  obtain rfl := Option.some.inj H
  go_enter Try.func15, Try.ntmps15
  go_wp2_with (first | ((with_reducible refine gate_callee (f := 12) rfl ?_); refine goesL_ (some 11) rfl rfl Try.func12 (by kernel_rfl) rfl #[.int .i64 (wrap64 (Int.tdiv a0 a1)), .int .i64 a2] rfl (by (try simp only [List.map_toArray, List.map_cons, List.map_nil]); first | done | rfl | (simp only [List.length_drop, List.length_take]; rfl)) ?_; (with_reducible refine (busbarlaw0_Within.calls (wrap64 (Int.tdiv a0 a1)) a2 t113 _ A5.out).mono ?_); rintro e w' ⟨rfl, ⟨nd, rfl⟩⟩; refine ⟨_, rfl, ?_⟩))
  go_ret
  exact ⟨by first | rfl | (simp; done) | (simp [*]; done), by repeat (first | exact Drawn0.refl _ | apply Drawn0.step)⟩
end Go.Proofs.Ytakiojmjalbfpaa.PRing
namespace Go.Proofs.Ytakiojmjalbfpaa.PRing
open Go.RowKit Go.Proofs.YtakiojmjalbfpaaW.PrintWords Go.Proofs.YtakiojmjalbfpaaW.PrintLast Go.Proofs.YtakiojmjalbfpaaW.PrintMore
attribute [local go_sem] max2_int min2_int max_two min_two max_three min_three max_four min_four plus_setCell_drewN plus_cell_same   -- for this text's walks alone
set_option linter.unusedVariables false
set_option linter.unusedSimpArgs false
def busbarlaw9_some.l0 : Nat → Int → Int → List Int → Int → Option (List Int)
 | 0, _, _, _, _ => none
 | k + 1, x0, x1, x5, x6 => if x6 < x1 then (if x5.length < 140737488355328 then (busbarlaw9_some.l0 k x0 x1 (x5 ++ [(wrap64 (x0 + x6)) % 256]) (wrap64 (x6 + 1))) else (none)) else (some x5)
def busbarlaw9_some.f (k : Nat) (a0 : Int) (a1 : Int) : Option (List Int) := busbarlaw9_some.l0 k a0 a1 ([] : List Int) 0
theorem busbarlaw9_some.mono_l : ∀ k, (∀ y0 y1 y2 y3, LeO (busbarlaw9_some.l0 k y0 y1 y2 y3) (busbarlaw9_some.l0 (k + 1) y0 y1 y2 y3))
 | 0 => fun _ _ _ _ r h => by simp [busbarlaw9_some.l0] at h
 | k + 1 => by
  have ih0 := busbarlaw9_some.mono_l k
  ·
   intro y0 y1 y2 y3
   unfold busbarlaw9_some.l0
   repeat' first
   | (with_reducible exact ih0 _ _ _ _)
   | (with_reducible exact LeO.refl _)
   | (with_reducible exact LeO.none _)
   | (with_reducible refine LeO.ite ?_ ?_)
   | (with_reducible refine LeO.bind ?_ (fun _ => ?_))
   | exact ih0 _ _ _ _
   | exact LeO.none _
   | refine LeO.ite ?_ ?_
   | refine LeO.bind ?_ (fun _ => ?_)
theorem busbarlaw9_some.mono : ∀ a0 a1 k, LeO (busbarlaw9_some.f k a0 a1) (busbarlaw9_some.f (k + 1) a0 a1) := by
 intro a0 a1 k
 have ih0 := busbarlaw9_some.mono_l k
 unfold busbarlaw9_some.f
 repeat' first
   | (with_reducible exact ih0 _ _ _ _)
   | (with_reducible exact LeO.refl _)
   | (with_reducible exact LeO.none _)
   | (with_reducible refine LeO.ite ?_ ?_)
   | (with_reducible refine LeO.bind ?_ (fun _ => ?_))
   | exact ih0 _ _ _ _
   | exact LeO.none _
   | refine LeO.ite ?_ ?_
   | refine LeO.bind ?_ (fun _ => ?_)
set_option maxHeartbeats 8000000 in
set_option maxRecDepth 100000 in
theorem busbarlaw9_some.calls (k : Nat) (a0 : Int) (a1 : Int) (r : List Int) (w : World) (h : busbarlaw9_some.f k a0 a1 = some r) :
  Calls Try.prog 16 #[.int .i64 a0, .int .i64 a1] w fun e w' => ∃ v0_ : Value, e = .returned (v0_) ∧ Kd.R (Kd.int .u8) 5 w' w.heap.size (fun _ => True) v0_ r ∧ Below w.heap.size w w' := by
 have HB := Aside0.mk (Below.refl w.heap.size w)
 have H : (busbarlaw9_some.l0 k a0 a1 ([] : List Int) 0) = some r := h
 clear h
 have H' := Aside0.mk H
 clear H
 go_enter Try.func16, Try.ntmps16
 go_wp2
 go_loopg [5, 6] k (fun kq v5 v6 w' => ∃ (x5_1 : List Int) (x6_1 : Int), v6 = .int .i64 x6_1 ∧ Aside0 (busbarlaw9_some.l0 kq a0 a1 x5_1 x6_1 = some r) ∧ Aside0 (kq ≤ k) ∧ Aside0 (Kd.R (Kd.int .u8) 5 w' w.heap.size (fun _ => True) v5 x5_1) ∧ Aside0 (Below w.heap.size w w'))
 case atStart => exact ⟨(([] : List Int)), (0), (by first | rfl | (simp; done) | (simp [*]; done)), H', ⟨Nat.le_refl _⟩, ⟨by first | exact Kd.R_nil _ _ _ _ _ | exact Kd.N_nil _ _ _ _ _ | exact Kd.V_nil _ _ _ _ _ | exact Kd.Q_nil _ _ _ _ _ | exact Kd.S_nil _ _ _ _ _⟩, ⟨by repeat (first | (with_reducible first | exact HB.out | apply below_alloc | apply pw_below_drewN | apply below_drew1) | exact HB.out)⟩⟩
 case round =>
  clear H'
  try clear c1
  try clear p2
  obtain ⟨x5_1, x6_1, rfl, HA, HK1, HO_5, HB⟩ := hrel
  cases gk with
  | zero => exact absurd HA.out (by simp [busbarlaw9_some.l0])
  | succ k1 =>
   have H := HA.out
   clear HA
   simp only [busbarlaw9_some.l0] at H
   by_cases c3 : x6_1 < a1
   ·
    rw [if_pos c3] at H
    have c3b0 : decide (x6_1 < a1) = true := decide_eq_true c3
    clear c3
    by_cases c4 : x5_1.length < 140737488355328
    ·
     rw [if_pos c4] at H
     have LMc4 := Aside0.mk c4
     clear c4
     obtain ⟨y114, hy114⟩ : ∃ y_ : List Int, y_ = (x5_1 ++ [(wrap64 (a0 + x6_1)) % 256]) := ⟨_, rfl⟩
     replace H : (busbarlaw9_some.l0 k1 a0 a1 y114 (wrap64 (x6_1 + 1))) = some r := by first | (rw [hy114]; with_reducible exact H) | (have H2_ := (Option.bind_some _ _).symm.trans H; rw [hy114]; with_reducible exact H2_) | (have H2_ := (Option.bind_some _ _).symm.trans H; with_reducible exact H2_) | with_reducible exact H | (rw [hy114]; exact H) | exact H
     have Ny114 := Aside0.mk hy114
     clear hy114
     have H' := Aside0.mk H
     clear H
     go_wp2_with (first | ((with_reducible refine gate_builtin (b := .append) (xs := #[.tmp 12, .tmp 17]) rfl ?_); at_builtin; refine Kd.R_append (Kd.int .u8) (w0 := w) w.heap.size rfl (.tmp 12) (.tmp 17) 30 5 (.int .u8 0) 1 rfl Try.underlying30 info5 rfl (by decide) (by omega) u5 x5_1 ((wrap64 (a0 + x6_1)) % 256) [.int .u8 ((wrap64 (a0 + x6_1)) % 256)] (fun _ => True) (fun _ => False) rfl rfl ?aP (fun _ hk => hk.elim) ?aF ?aO ?aB ?aS ?aL ?_; (case aP => exact rfl); (case aB => exact (by repeat (first | (with_reducible first | exact HB.out | apply below_alloc | apply pw_below_drewN | apply below_drew1) | exact HB.out))); (case aF => exact (fun _ _ => trivial)); (case aO => exact (by (with_reducible repeat (first | apply Kd.R_alloc | apply Kd.R_drewN | apply Kd.R_drew)); exact HO_5.out)); (case aS => exact (below_size (by repeat (first | (with_reducible first | exact HB.out | apply below_alloc | apply pw_below_drewN | apply below_drew1) | exact HB.out)))); (case aL => have := LMc4.out; omega); intro v115 w5 ho hb hg hat; rw [← Ny114.out] at ho; have n0_ := Aside0.mk (hb); have n1_ := Aside0.mk (ho); clear HB; clear HO_5; have HB := n0_; have HO116 := n1_; clear n0_ n1_; clear ho hb hg hat))
     go_roundg k1
     case measure => have := HK1.out; omega
     case rel => exact ⟨(y114), (wrap64 (x6_1 + 1)), (by first | rfl | (simp; done) | (simp [*]; done)), H', ⟨by have := HK1.out; omega⟩, ⟨by (with_reducible repeat (first | apply Kd.R_alloc | apply Kd.R_drewN | apply Kd.R_drew)); exact HO116.out⟩, ⟨by repeat (first | (with_reducible first | exact HB.out | apply below_alloc | apply pw_below_drewN | apply below_drew1) | exact HB.out)⟩⟩
    ·
     rw [if_neg c4] at H
     exact absurd H (by simp)
   ·
    rw [if_neg c3] at H
    have c3b0 : decide (x6_1 < a1) = false := decide_eq_false c3
    clear c3
    obtain rfl := Option.some.inj H
    go_wp2
    go_ret
    exact ⟨_, by first | rfl | (simp [errW_none, errW_some] <;> rfl) | (simp [*, errW_none, errW_some] <;> rfl), by (with_reducible repeat (first | apply Kd.R_alloc | apply Kd.R_drewN | apply Kd.R_drew)); exact HO_5.out, by repeat (first | (with_reducible first | exact HB.out | apply below_alloc | apply pw_below_drewN | apply below_drew1) | exact HB.out)⟩
end Go.Proofs.Ytakiojmjalbfpaa.PRing
set_option linter.unusedVariables false
set_option linter.unusedSimpArgs false
namespace Go.Proofs.Ytakiojmjalbfpaa.Ring
open Go.RowKit Go.Proofs.YtakiojmjalbfpaaW.PrintWords Go.Proofs.YtakiojmjalbfpaaW.PrintLast Go.Proofs.YtakiojmjalbfpaaW.PrintMore Go.Proofs.Ytakiojmjalbfpaa.PRing
attribute [local go_sem] plus_setCell_drewN plus_cell_same
theorem ring_New_n (n : Nat) (hn : n ≤ 65536) (w : World) :
    Calls Try.prog 13 #[.int .i64 (n : Int)] w fun e w' => ∃ g B, e = .returned (.pointer (some ⟨g, 0, none⟩)) ∧ RingW w' g B n [] ∧ w.heap.size ≤ g ∧ w.heap.size ≤ B ∧ Below w.heap.size w w' := by
  have := ring_New (n : Int) w
  rwa [show (min (max (n : Int) 0) 65536).toNat = n by omega] at this
set_option maxRecDepth 100000 in
theorem law9_awake (w : World) : Calls Try.prog 11 #[] w fun e w' => e = .returned (.bool true) ∧ Below w.heap.size w w' := by
  have hu76 := Try.underlying76
  have hu30 := Try.underlying30
  go_enter Try.func11, Try.ntmps11
  go_wp2_with (fail)
  refine (ring_New_n 3 (by omega) _).mono ?_
  rintro e w1 ⟨g, B, rfl, hr, hg, hB, hb⟩
  have A1 := Lib.hid hr
  have A2 := Lib.hid hb
  have A3 := Lib.hid hg
  have A4 := Lib.hid hB
  have A5 := Lib.hid hr.lt
  clear hr hb hg hB
  go_wp2_with (fail)
  refine (ring_Put _ g B 3 [] (A1.out.below (below_alloc (Below.refl _ _) _)) (some ⟨w1.heap.size, 0, none⟩) 4 [1, 2, 3, 4] (C_bytes (l := [1, 2, 3, 4]) (blk_new w1 (.cells (bv [1, 2, 3, 4]) 5 (0, 0))) 0 4 (by simp) (by simp)) (by simp) (fun _ a ha => by injection ha with ha; subst ha; show w1.heap.size ≠ B; have := A5.out; omega) 3 rfl).mono ?_
  rintro e w2 ⟨rfl, hr, hf⟩
  have B1 := Lib.hid hr
  have B2 := Lib.hid (hf.below (A2.out.alloc A2.out.size _) (by simp; have := A2.out.size; omega) A3.out A4.out)
  clear hr hf A1 A2 A5
  go_wp2_with (fail)
  refine (ring_Take _ g B 3 _ B1.out 2 2 rfl).mono ?_
  rintro e w3 ⟨Ao, co, rfl, hR, hr, hf⟩
  obtain ⟨gA, cap, eA, hgA, hgA2, _⟩ := Kd.R_form hR (by simp)
  injection eA with eA e2 e3
  subst eA
  subst e3
  clear e2
  have C1 := Lib.hid hr
  have C2 := Lib.hid (hf.below B2.out B2.out.size A3.out A4.out)
  have C3 := Lib.hid (C_cell (Kd.R_reads' hR).2.2 rfl 1 2 rfl)
  have C4 := Lib.hid (show gA ≠ g ∧ gA ≠ B ∧ gA < w3.heap.size by have := B1.out.lt; omega)
  have C5 := Lib.hid hr.lt
  clear hr hf hR B1 B2 hgA hgA2
  go_wp2_with (fail)
  refine (ring_Put _ g B 3 _ (C1.out.below (below_alloc (Below.refl _ _) _)) (some ⟨w3.heap.size, 0, none⟩) 1 [5] (C_bytes (l := [5]) (blk_new w3 (.cells (bv [5]) 5 (0, 0))) 0 1 (by simp) (by simp)) (by simp) (fun _ a ha => by injection ha with ha; subst ha; show w3.heap.size ≠ B; have := C5.out; omega) 1 rfl).mono ?_
  rintro e w4 ⟨rfl, hr, hf⟩
  have D1 := Lib.hid hr
  have D2 := Lib.hid (hf.below (C2.out.alloc C2.out.size _) (by simp; have := C2.out.size; omega) A3.out A4.out)
  have hcell : w4.cell? ⟨gA, 1, none⟩ = some (.int .u8 2) := by
    rw [cell_of_heap (w := w3.alloc _) (hf.block gA (by simp; have := C4.out; omega) C4.out.1 C4.out.2.1), World.cell?_alloc_lt _ _ _ C4.out.2.2]
    exact C3.out
  clear hr hf C1 C2 C5
  go_wp2_with (fail)
  refine (ring_Len _ g B 3 _ D1.out).mono ?_
  rintro e w5 ⟨rfl, n, rfl⟩
  go_wp2
  go_ret
  exact ⟨rfl, pw_below_drewN D2.out n⟩
end Go.Proofs.Ytakiojmjalbfpaa.Ring
set_option linter.unusedVariables false
set_option linter.unusedSimpArgs false
namespace Go.Proofs.Ytakiojmjalbfpaa.Ring
open Go.RowKit Go.Proofs.YtakiojmjalbfpaaW.PrintWords Go.Proofs.YtakiojmjalbfpaaW.PrintLast Go.Proofs.YtakiojmjalbfpaaW.PrintMore Go.Proofs.Ytakiojmjalbfpaa.PRing
attribute [local go_sem] plus_setCell_drewN plus_cell_same
theorem wrap64_in {x : Int} (h1 : -9223372036854775808 ≤ x) (h2 : x < 9223372036854775808) : wrap64 x = x := by unfold wrap64; omega
theorem within_f (a n : Int) (hn : 0 < n) (hn2 : n < 4611686018427387904) : busbarlaw0_Within.f a n = some (a % n) := by
  unfold busbarlaw0_Within.f
  rw [if_neg (by omega)]
  by_cases h : Int.tmod a n < 0
  · rw [if_pos h]
    congr 1
    have h2 := Int.tmod_lt_of_pos a hn
    have h3 : a % n = Int.tmod a n + n := by
      rw [Int.tmod_eq_emod] at h ⊢
      split at h
      · have := Int.emod_nonneg a (show n ≠ 0 by omega); omega
      · rename_i hc
        rw [if_neg hc]
        omega
    rw [wrap64_in (by have := Int.emod_nonneg a (show n ≠ 0 by omega); omega) (by have := Int.emod_lt_of_pos a hn; omega), h3]
  · rw [if_neg h]
    congr 1
    rw [Int.tmod_eq_emod] at h ⊢
    split at h
    · rename_i hc; rw [if_pos hc]; omega
    · exfalso
      have := Int.emod_lt_of_pos a hn
      omega
theorem within_calls (a n : Int) (hn : 0 < n) (hn2 : n < 4611686018427387904) (w : World) : Calls Try.prog 12 #[.int .i64 a, .int .i64 n] w fun e w' => e = .returned (.int .i64 (a % n)) ∧ ∃ nd, w' = w.drewN nd := by
  refine (busbarlaw0_Within.calls a n (a % n) w (within_f a n hn hn2)).mono ?_
  rintro e w1 ⟨rfl, hd⟩
  exact ⟨rfl, hd.out⟩
end Go.Proofs.Ytakiojmjalbfpaa.Ring
set_option linter.unusedVariables false
set_option linter.unusedSimpArgs false
namespace Go.Proofs.Ytakiojmjalbfpaa.Ring
open Go.RowKit Go.Proofs.YtakiojmjalbfpaaW.PrintWords Go.Proofs.YtakiojmjalbfpaaW.PrintLast Go.Proofs.YtakiojmjalbfpaaW.PrintMore Go.Proofs.Ytakiojmjalbfpaa.PRing
attribute [local go_sem] max2_int min2_int max_two min_two plus_setCell_drewN plus_cell_same
structure St (w0 : World) (g B M : Nat) (q : List Int) (w : World) : Prop where
  r : RingW w g B M q
  b : Below w0.heap.size w0 w
  g0 : w0.heap.size ≤ g
  B0 : w0.heap.size ≤ B
theorem St.below {w0 w w1 : World} {g B M : Nat} {q : List Int} (h : St w0 g B M q w) (hb : Below w.heap.size w w1) : St w0 g B M q w1 := ⟨h.r.below hb, below_then h.b h.b.size hb, h.g0, h.B0⟩
theorem St.next {w0 w w1 : World} {g B M : Nat} {q q1 : List Int} (h : St w0 g B M q w) (hr : RingW w1 g B M q1) (hf : Fr2 g B w w1) : St w0 g B M q1 w1 := ⟨hr, hf.below h.b h.b.size h.g0 h.B0, h.g0, h.B0⟩
theorem within_b (a n : Int) (hn : 0 < n) (hn2 : n < 4611686018427387904) (w : World) : Calls Try.prog 12 #[.int .i64 a, .int .i64 n] w fun e w' => e = .returned (.int .i64 (a % n)) ∧ Below w.heap.size w w' := by
  refine (within_calls a n hn hn2 w).mono ?_
  rintro e w1 ⟨rfl, nd, rfl⟩
  exact ⟨rfl, pw_below_drewN (Below.refl _ _) nd⟩
theorem cut_both (A : Option Addr) (f t n c : Nat) (h : f ≤ t) (hc : t ≤ c) : ∃ A1 : Option Addr, (0 < t - f → A1 = A.map (·.add f)) ∧ ∀ (W : World), (Instr.sliceAt 30 (.slice A n c) (some (.int .i64 f)) (some (.int .i64 t)) none).run Try.prog W = .ok (.slice A1 (t - f) (c - f)) W := by
  refine ⟨if c = f then A else A.map (·.add f), fun h => if_neg (by omega), fun W => ?_⟩
  have hu30 := Try.underlying30
  by_cases e : c = f
  · have : t = c := by omega
    subst this
    subst e
    simp [Instr.sliceAt, Instr.slice, Instr.sliceBounds, Instr.sliceBound, go_sem]
  · simp [Instr.sliceAt, Instr.slice, Instr.sliceBounds, Instr.sliceBound, go_sem, h, hc, e]
theorem digit_b (a d n : Int) (hd : d ≠ 0) (hn : 0 < n) (hn2 : n < 4611686018427387904) (w : World) : Calls Try.prog 15 #[.int .i64 a, .int .i64 d, .int .i64 n] w fun e w' => e = .returned (.int .i64 (wrap64 (Int.tdiv a d) % n)) ∧ Below w.heap.size w w' := by
  refine (busbarlaw0_Digit.calls a d n (wrap64 (Int.tdiv a d) % n) w ?_).mono ?_
  · unfold busbarlaw0_Digit.f
    rw [if_neg hd, within_f _ n hn hn2, Option.bind_some]
  · rintro e w1 ⟨rfl, hd⟩
    obtain ⟨nd, rfl⟩ := hd.out
    exact ⟨rfl, pw_below_drewN (Below.refl _ _) nd⟩
theorem ring_Put_n (w : World) (g B M : Nat) (q : List Int) (h : RingW w g B M q) (A0 : Option Addr) (n c0 : Nat) (l : List Int) (hn : n = l.length) (hr : Kd.C (Kd.int .u8) w A0 n l) (hc0 : n ≤ c0) (hne : 0 < n → ∀ a, A0 = some a → a.block ≠ B) (m : Nat) (hm : m = min n (M - q.length)) :
    Calls Try.prog 18 #[.pointer (some ⟨g, 0, none⟩), .slice A0 n c0] w fun e w' => e = .returned (.int .i64 (m : Int)) ∧ RingW w' g B M (q ++ l.take m) ∧ Fr2 g B w w' := by
  subst hn
  exact ring_Put w g B M q h A0 c0 l hr hc0 hne m hm
theorem St.grown {w0 w w1 : World} {g B M : Nat} {q : List Int} (h : St w0 g B M q w) {r : Option Nat} (hg : w.grownBy w1 r) (hr : ∀ k, r = some k → k ≠ g ∧ k ≠ B ∧ w0.heap.size ≤ k) : St w0 g B M q w1 :=
  ⟨h.r.grown hg (fun e => (hr g e.symm).1 rfl) (fun e => (hr B e.symm).2.1 rfl), h.b.grown hg h.b.size (fun k hk => (hr k hk).2.2), h.g0, h.B0⟩
theorem C_lt {k : IntKind} {w : World} {A : Option Addr} {n : Nat} {l : List Int} (h : Kd.C (Kd.int k) w A n l) (h0 : 0 < n) : ∀ a, A = some a → a.block < w.heap.size := by
  intro a ha
  obtain ⟨ad, e, hx⟩ := Kd.at_int h 0 (by omega) (by omega)
  rw [ha] at e
  injection e with e
  subst e
  have := World.block_lt_of_cell? _ _ hx
  have e1 : (a.add (0 : Int).toNat).block = a.block := by unfold Addr.add; split <;> rfl
  rwa [e1] at this
end Go.Proofs.Ytakiojmjalbfpaa.Ring
set_option linter.unusedVariables false
set_option linter.unusedSimpArgs false
namespace Go.Proofs.Ytakiojmjalbfpaa.Ring
open Go.RowKit Go.Proofs.YtakiojmjalbfpaaW.PrintWords Go.Proofs.YtakiojmjalbfpaaW.PrintLast Go.Proofs.YtakiojmjalbfpaaW.PrintMore Go.Proofs.Ytakiojmjalbfpaa.PRing
attribute [local go_sem] plus_setCell_drewN plus_cell_same
set_option maxRecDepth 100000 in
set_option maxHeartbeats 4000000 in
theorem RingOrder_calls (A0 : Option Addr) (c0 : Nat) (b : List Int) (p1 : Int) (A2 : Option Addr) (c2 : Nat) (ks : List Int) (w : World) (hr0 : Kd.C (Kd.int .u8) w A0 b.length b) (hc0 : b.length ≤ c0) (hr2 : Kd.C (Kd.int .i64) w A2 ks.length ks) (hc2 : ks.length ≤ c2) :
    Calls Try.prog 4 #[.slice A0 b.length c0, .int .i64 p1, .slice A2 ks.length c2] w fun e w' => e = .returned (.bool true) ∧ Below w.heap.size w w' := by
  have hu22 := Try.underlying22
  have hu30 := Try.underlying30
  have hb9 : b.length ≤ 9223372036854775807 := by have := hr0.2.1; omega
  have hk9 : ks.length ≤ 9223372036854775807 := by have := hr2.2.1; omega
  have HR0 := Lib.hid hr0
  have HR2 := Lib.hid hr2
  clear hr0 hr2
  by_cases h1 : 300 < b.length
  · have d1 : decide (300 < (b.length : Int)) = true := decide_eq_true (by omega)
    go_enter Try.func4, Try.ntmps4
    go_wp2_with (fail)
    refine (law9_awake _).mono ?_
    rintro e w1 ⟨rfl, hb⟩
    go_wp2
    go_ret
    exact ⟨rfl, hb⟩
  have d1 : decide (300 < (b.length : Int)) = false := decide_eq_false (by omega)
  by_cases h2 : 100 < ks.length
  · have d2 : decide (100 < (ks.length : Int)) = true := decide_eq_true (by omega)
    go_enter Try.func4, Try.ntmps4
    go_wp2_with (fail)
    refine (law9_awake _).mono ?_
    rintro e w1 ⟨rfl, hb⟩
    go_wp2
    go_ret
    exact ⟨rfl, hb⟩
  have d2 : decide (100 < (ks.length : Int)) = false := decide_eq_false (by omega)
  obtain ⟨M, hM⟩ : ∃ M : Nat, 1 + p1 % 50 = (M : Int) := ⟨(1 + p1 % 50).toNat, by omega⟩
  have bM : M ≤ 50 := by omega
  have hMw : wrap64 (1 + p1 % 50) = (M : Int) := by rw [hM]; exact wrap64_in (by omega) (by omega)
  have X1 := Lib.hid hM
  go_enter Try.func4, Try.ntmps4
  go_wp2_with (fail)
  refine (law9_awake _).mono ?_
  rintro e w1 ⟨rfl, hb⟩
  have A2_ := Lib.hid hb
  clear hb hM
  go_wp2_with (fail)
  refine (within_b p1 50 (by omega) (by omega) _).mono ?_
  rintro e w2 ⟨rfl, hb⟩
  have A3 := Lib.hid (below_then A2_.out A2_.out.size hb)
  clear hb A2_
  go_wp2_with (fail)
  rw [X1.out]
  refine (ring_New_n M (by omega) _).mono ?_
  rintro e w3 ⟨g, B, rfl, hr, hg, hB, hb⟩
  have S1 := Lib.hid (show St w g B M [] w3 from ⟨hr, below_then A3.out A3.out.size hb, by have := A3.out.size; omega, by have := A3.out.size; omega⟩)
  clear hr hb hg hB A3
  go_wp2_with (fail)
  go_loopg [8, 9, 10] ks.length (fun g_ v8 v9 v10 wx => ∃ (j f : Int) (o q : List Int), 0 ≤ j ∧ j + (g_ : Int) = (ks.length : Int) ∧ 0 ≤ f ∧ f ≤ (b.length : Int) ∧ v9 = .int .i64 f ∧ v10 = .int .i64 j ∧ Aside0 (Kd.R (Kd.int .u8) 5 wx w.heap.size (fun k => k ≠ g ∧ k ≠ B) v8 o) ∧ Aside0 (St w g B M q wx) ∧ Aside0 (o ++ q = b.take f.toNat))
  case atStart => exact ⟨0, 0, [], [], by omega, by omega, by omega, by omega, rfl, rfl, ⟨Kd.R_nil _ _ _ _ _⟩, ⟨S1.out⟩, ⟨by simp⟩⟩
  case round =>
    obtain ⟨j, f, o, q, hj0, hj, hf0, hf, rfl, rfl, HO, HS, HQ⟩ := hrel
    cases gk with
    | zero =>
      have hd : decide (j < (ks.length : Int)) = false := decide_eq_false (by omega)
      obtain ⟨fn, rfl⟩ := Int.eq_ofNat_of_zero_le hf0
      rw [Int.toNat_natCast] at HQ
      have hch := cut_high A0 fn b.length c0 (by omega)
      go_wp2_with (fail)
      refine (ring_Take _ g B M q HS.out.r 1000 _ rfl).mono ?_
      rintro e w7 ⟨At, ct, rfl, hR, hr, hf⟩
      have hq5 := HS.out.r.le
      rw [show (1000 : Int).toNat = 1000 by omega, List.take_of_length_le (by omega)] at hR ⊢
      rw [show (1000 : Int).toNat = 1000 by omega, List.drop_eq_nil_of_le (by omega)] at hr
      have ho3 : o.length ≤ 300 := by have := congrArg List.length HQ.out; rw [List.length_append, List.length_take] at this; omega
      have S7 := Lib.hid (HS.out.next hr hf)
      have O7 := Lib.hid (Kd.R_step HO.out (fun k hk hl => hf.block k hl hk.1 hk.2))
      have R7 := Lib.hid hR
      have L7 := Lib.hid (And.intro hq5 ho3)
      clear HS HO hr hf hR hq5 ho3
      go_wp2_with ((with_reducible refine gate_builtin (b := .append) (xs := #[.tmp 66, .tmp 68]) (ts := #[30, 30]) rfl ?_); refine Kd.R_append_rows (Kd.int .u8) (w0 := w) w.heap.size rfl (.tmp 66) (.tmp 68) 30 5 (.int .u8 0) 1 rfl Try.underlying30 (by kernel_rfl) rfl (by decide) (by omega) _ o q _ _ _ (fun k => k ≠ g ∧ k ≠ B) (fun _ => False) rfl rfl O7.out (Kd.R_reads' R7.out).2.2 (fun _ _ h => h) (fun _ h => h.elim) (fun k hk => by have := S7.out.r.lt; omega) S7.out.b S7.out.b.size (by have := L7.out; omega) ?_; intro v8 w8 hO hb hg hnew)
      rw [HQ.out] at hO
      obtain ⟨Ao, co, rfl⟩ := Kd.R_slice hO
      have S8 := Lib.hid (S7.out.grown hg (fun k hk => by
        have h1 := O7.out.1 k hk
        exact ⟨h1.1, h1.2, Kd.R_base O7.out k hk⟩))
      have hlen : (b.take fn).length = fn := by rw [List.length_take]; omega
      rw [hlen] at hO ⊢
      have hC1 := (Kd.R_reads' hO).2.2
      have hC2 := C_take (Kd.C_below HR0.out S8.out.b) fn (by omega)
      obtain ⟨L, hL⟩ : ∃ L, L = b.take fn := ⟨_, rfl⟩
      rw [← hL] at hC1 hC2 hlen
      rw [hlen] at hC1
      have hs1 : ∀ n, (convert 30 9 (.slice Ao fn co)).run Try.prog (w8.drewN n) = .ok (.string (strOfNums L)) (w8.drewN n) := fun n => Kd.C_string (P := Try.prog) Try.underlying30 Try.underlying5 Try.underlying9 (A := Ao) (c := co) (Kd.C_drewN hC1 n)
      have hs2 : ∀ n, (convert 30 9 (.slice A0 fn c0)).run Try.prog (w8.drewN n) = .ok (.string (strOfNums L)) (w8.drewN n) := fun n => Kd.C_string (P := Try.prog) Try.underlying30 Try.underlying5 Try.underlying9 (A := A0) (c := c0) (Kd.C_drewN hC2 n)
      clear hC1 hC2 hL hO hlen
      go_quiet (first | (go_at_call 25; refine Calls.quiet_of (ring_Len _ g B M _ (S8.out.r.below (pw_below_drewN (Below.refl _ _) _)))) | (go_at_call 26; refine Calls.quiet_of (ring_Room _ g B M _ (S8.out.r.below (pw_below_drewN (Below.refl _ _) _)))) | (go_at_call 12; refine Calls.quiet_of (within_calls p1 50 (by omega) (by omega) _)))
      go_wp2
      go_ret
      refine ⟨?_, pw_below_drewN S8.out.b _⟩
      show Ending.returned (.bool ((M : Int) == 1 + p1 % 50)) = _
      rw [beq_iff_eq.2 X1.out.symm]
    | succ g1 =>
      have hd : decide (j < (ks.length : Int)) = true := decide_eq_true (by omega)
      obtain ⟨ad, e, hx⟩ := Kd.at_int (Kd.C_below HR2.out HS.out.b) j (by omega) (by omega)
      have p0 : (0 ≤ j) = True := eq_true (by omega)
      have q0 : (j < (ks.length : Int)) = True := eq_true (by omega)
      generalize hxe : rd ks j = x at hx
      have XE := Lib.hid hxe
      clear hxe
      obtain ⟨m, hm⟩ : ∃ m : Nat, (m : Int) = min (x % 30) ((b.length : Int) - f) := ⟨(min (x % 30) ((b.length : Int) - f)).toNat, by have := Int.emod_nonneg x (show (30 : Int) ≠ 0 by omega); omega⟩
      have N1 := Lib.hid hm
      have HJ := Lib.hid hj
      clear hm hj
      subst e
      go_wp2_with (fail)
      refine (within_b x 30 (by omega) (by omega) _).mono ?_
      rintro e w4 ⟨rfl, hb⟩
      have S4 := Lib.hid (HS.out.below hb)
      have O4 := Lib.hid (Kd.R_below HO.out hb)
      clear HS HO hb hx
      obtain ⟨fn, rfl⟩ := Int.eq_ofNat_of_zero_le hf0
      have hmf : fn + m ≤ b.length := by have := N1.out; omega
      obtain ⟨A1, hA1, hsl⟩ := cut_both A0 fn (fn + m) b.length c0 (by omega) (by omega)
      rw [show fn + m - fn = m by omega] at hA1 hsl
      have hti : ((fn + m : Nat) : Int) = (fn : Int) + (m : Int) := by omega
      rw [hti] at hsl
      have N2 := Lib.hid hA1
      clear hA1 hti hf0
      go_wp2_with ((with_reducible refine gate_dst (N := 46) rfl ?_); refine wl_min rfl (.tmp 41) (.tmp 45) _ rfl .i64 (x % 30) ((b.length : Int) - fn) m rfl rfl N1.out ?_)
      have hC4 := C_cut (Kd.C_below HR0.out S4.out.b) fn m hmf A1 (fun h => N2.out h)
      obtain ⟨p, hp⟩ : ∃ p, p = min m (M - q.length) := ⟨_, rfl⟩
      refine (ring_Put_n _ g B M q S4.out.r A1 m (c0 - fn) _ hC4.1.symm hC4 (by omega) (fun h0 a ha => by
        have hlt := S4.out.B0
        rw [N2.out h0] at ha
        obtain ⟨a0, ea, rfl⟩ := Option.map_eq_some_iff.1 ha
        have := C_lt HR0.out (show 0 < b.length by omega) a0 ea
        have e1 : (a0.add fn).block = a0.block := by unfold Addr.add; split <;> rfl
        rw [e1]
        omega) p hp).mono ?_
      rintro e w5 ⟨rfl, hr, hf⟩
      have hpm : p ≤ m := by omega
      rw [List.take_take, Nat.min_eq_left hpm] at hr
      have HQ2 : Hid (o ++ (q ++ (b.drop fn).take p) = b.take (fn + p)) := by
        show _ = _
        rw [← List.append_assoc, HQ.out, Int.toNat_natCast, List.take_add]
      generalize q ++ (b.drop fn).take p = q1 at *
      have S5 := Lib.hid (S4.out.next hr hf)
      have O5 := Lib.hid (Kd.R_step O4.out (fun k hk hl => hf.block k hl hk.1 hk.2))
      have PM := Lib.hid hpm
      obtain ⟨ad2, e2, hx5⟩ := Kd.at_int (Kd.C_below HR2.out S5.out.b) j (by omega) (of_decide_eq_true hd)
      cases e2
      rw [XE.out] at hx5
      clear S4 O4 hr hf hC4 hp hpm HQ N1 N2 hsl
      go_wp2_with (fail)
      refine (digit_b x 30 30 (by omega) (by omega) (by omega) _).mono ?_
      rintro e w6 ⟨rfl, hb⟩
      have S6 := Lib.hid (S5.out.below hb)
      have O6 := Lib.hid (Kd.R_below O5.out hb)
      clear S5 O5 hb hx5
      generalize wrap64 (Int.tdiv x 30) % 30 = y at *
      go_wp2_with (fail)
      refine (ring_Take _ g B M q1 S6.out.r y _ rfl).mono ?_
      rintro e w7 ⟨At, ct, rfl, hR, hr, hf⟩
      have hqq := List.take_append_drop y.toNat q1
      generalize q1.drop y.toNat = q2 at *
      generalize q1.take y.toNat = q3 at *
      have HQ3 : Hid ((o ++ q3) ++ q2 = b.take (fn + p)) := by
        show _ = _
        rw [List.append_assoc, hqq]
        exact HQ2.out
      have hq3 : q3.length ≤ 50 := by have := S6.out.r.le; rw [← hqq, List.length_append] at this; omega
      have ho3 : o.length ≤ 300 := by have := congrArg List.length HQ2.out; rw [List.length_append, List.length_take] at this; omega
      have S7 := Lib.hid (S6.out.next hr hf)
      have O7 := Lib.hid (Kd.R_step O6.out (fun k hk hl => hf.block k hl hk.1 hk.2))
      have R7 := Lib.hid hR
      have L7 := Lib.hid (And.intro hq3 ho3)
      clear S6 O6 hr hf hqq HQ2 hR hq3 ho3
      go_wp2_with ((with_reducible refine gate_builtin (b := .append) (xs := #[.tmp 57, .tmp 64]) (ts := #[30, 30]) rfl ?_); refine Kd.R_append_rows (Kd.int .u8) (w0 := w) w.heap.size rfl (.tmp 57) (.tmp 64) 30 5 (.int .u8 0) 1 rfl Try.underlying30 (by kernel_rfl) rfl (by decide) (by omega) _ o q3 _ _ _ (fun k => k ≠ g ∧ k ≠ B) (fun _ => False) rfl rfl O7.out (Kd.R_reads' R7.out).2.2 (fun _ _ h => h) (fun _ h => h.elim) (fun k hk => by have := S7.out.r.lt; omega) S7.out.b S7.out.b.size (by have := L7.out; omega) ?_; intro v8 w8 hO hb hg hnew)
      have hpm := PM.out
      have hjk : j < (ks.length : Int) := of_decide_eq_true hd
      go_roundg g1
      case measure => omega
      case rel =>
        refine ⟨j + 1, (fn : Int) + p, o ++ q3, q2, by omega, by have := HJ.out; omega, by omega, by omega, by rw [wrap64_in (by omega) (by omega)], by rw [wrap64_in (by omega) (by omega)], ⟨hO⟩, ⟨S7.out.grown hg (fun k hk => ?_)⟩, ⟨?_⟩⟩
        · have h1 := O7.out.1 k hk
          exact ⟨h1.1, h1.2, Kd.R_base O7.out k hk⟩
        · rw [show ((fn : Int) + p).toNat = fn + p by omega]
          exact HQ3.out
end Go.Proofs.Ytakiojmjalbfpaa.Ring
namespace Go.Proofs.Ytakiojmjalbfpaa.PRing
open Go.RowKit Go.Proofs.YtakiojmjalbfpaaW.PrintWords Go.Proofs.YtakiojmjalbfpaaW.PrintLast Go.Proofs.YtakiojmjalbfpaaW.PrintMore
attribute [local go_sem] max2_int min2_int max_two min_two max_three min_three max_four min_four plus_setCell_drewN plus_cell_same   -- for this text's walks alone
set_option linter.unusedVariables false
set_option linter.unusedSimpArgs false
def busbarlaw9_RingOrder.f (l0 : List Int) (a1 : Int) (l2 : List Int) : Option Bool := some true
theorem busbarlaw9_RingOrder.calls (A0 : Option Addr) (c0 : Nat) (l0 : List Int) (a1 : Int) (A2 : Option Addr) (c2 : Nat) (l2 : List Int) (r : Bool) (w : World) (hr0 : Kd.C (Kd.int .u8) w A0 l0.length l0) (hc0 : l0.length ≤ c0) (hr2 : Kd.C (Kd.int .i64) w A2 l2.length l2) (hc2 : l2.length ≤ c2) (h : busbarlaw9_RingOrder.f l0 a1 l2 = some r) : Calls Try.prog 4 #[.slice A0 l0.length c0, .int .i64 a1, .slice A2 l2.length c2] w fun e w' => e = .returned (.bool r) ∧ Below w.heap.size w w' := by
 obtain rfl := Option.some.inj h
 exact Go.Proofs.Ytakiojmjalbfpaa.Ring.RingOrder_calls A0 c0 l0 a1 A2 c2 l2 w hr0 hc0 hr2 hc2
def busbarlaw9_RingOrder.Pure : Prop := ∀ (l0 : List Int) (a1 : Int) (l2 : List Int), l0.length ≤ maxLen → l0.length * 1 ≤ 140737488351232 → (∀ x ∈ l0, (Lit.int .u8 x).wf = true) → (Lit.int .i64 a1).wf = true → l2.length ≤ maxLen → l2.length * 8 ≤ 140737488351232 → (∀ x ∈ l2, (Lit.int .i64 x).wf = true) → busbarlaw9_RingOrder.f l0 a1 l2 = some true
theorem busbarlaw9_RingOrder.walk (P : busbarlaw9_RingOrder.Pure) (a0 : Option Addr) (len0 cap0 : Nat) (z0 : List Int) (a1 : Int) (a2 : Option Addr) (len2 cap2 : Nat) (z2 : List Int) (w : World) (w0 : (a0 = none ∧ len0 = 0 ∧ cap0 = 0 ∧ z0 = []) ∨ ∃ x, a0 = some x ∧ len0 ≤ cap0 ∧ cap0 ≤ maxLen ∧ z0.length = cap0 ∧ (∀ i, i < z0.length → w.cell? (x.add i) = some (.int .u8 (z0.getD i 0))) ∧ ∀ n ∈ z0, (Lit.int .u8 n).wf = true) (y0 : len0 * 1 ≤ 140737488351232) (w1 : (Lit.int .i64 a1).wf = true) (w2 : (a2 = none ∧ len2 = 0 ∧ cap2 = 0 ∧ z2 = []) ∨ ∃ x, a2 = some x ∧ len2 ≤ cap2 ∧ cap2 ≤ maxLen ∧ z2.length = cap2 ∧ (∀ i, i < z2.length → w.cell? (x.add i) = some (.int .i64 (z2.getD i 0))) ∧ ∀ n ∈ z2, (Lit.int .i64 n).wf = true) (y2 : len2 * 8 ≤ 140737488351232) :
  Calls Try.prog 4 #[.slice a0 len0 cap0, .int .i64 a1, .slice a2 len2 cap2] w fun e w' => e = .returned (.bool true) ∧ Below w.heap.size w w' := by
 obtain ⟨l0, rfl, hr0, hm0, hw0, hc0⟩ := ReadsInt.ofRowC w0
 obtain ⟨l2, rfl, hr2, hm2, hw2, hc2⟩ := ReadsInt.ofRowC w2
 have h := P l0 a1 l2 hm0 y0 hw0 w1 hm2 y2 hw2
 refine (busbarlaw9_RingOrder.calls _ _ l0 a1 _ _ l2 true w (Kd.C_of_reads (d := (0 : Int)) (h1 := fun _ => rfl) hr0) hc0 (Kd.C_of_reads (d := (0 : Int)) (h1 := fun _ => rfl) hr2) hc2 h).mono ?_
 rintro e w' ⟨rfl, hd⟩
 exact ⟨rfl, hd⟩
end Go.Proofs.Ytakiojmjalbfpaa.PRing
namespace Go.Proofs.Ytakiojmjalbfpaa.Pure
open Go.RowKit Go.Proofs.Ytakiojmjalbfpaa.PRing
theorem RingOrder : busbarlaw9_RingOrder.Pure := by
  unfold busbarlaw9_RingOrder.Pure
  intros
  rfl
end Go.Proofs.Ytakiojmjalbfpaa.Pure
