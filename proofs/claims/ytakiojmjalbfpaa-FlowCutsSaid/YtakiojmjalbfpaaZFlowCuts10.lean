/- Words and walks for FlowCuts (made of the session's own texts; each part by itself). -/
import Derived.BigRegion
import Derived.Test.YtakiojmjalbfpaaProg
import Derived.Below
import Derived.Deep.Draws
import Derived.Deep.AppendLies
import Derived.Maps.AppendAt
import Derived.OwnWalk
import Derived.Laws.BytesArg
import Derived.Laws.MakeOwn
import Derived.Laws.OwnMore
import Derived.Deep.OwnRows
import Derived.Tactics
import Derived.Lib.ConvBytes
import Derived.Laws.Slices
import Derived.WalkKit
import Derived.KernelRfl
import Derived.RowKit3
import Derived.Deep.LoopGhost
import Derived.Deep.QuietTactic
import Derived.BigQuiet
import Derived.WideLaws
import Derived.Deep.DeepCutAuto
import Derived.Deep.CutBlock
import Derived.Deep.RegionHeld3
import Derived.Laws.Rows
import Derived.Lib.AppendStr
import Derived.ArgAppend
import Derived.Laws.IdiomCopy
import Derived.OrdersHeld
import Derived.Laws.BitsLemmas
import Derived.RowKit
import Derived.Test.YtakiojmjalbfpaaZFlowCuts9
set_option linter.unusedVariables false
set_option linter.unusedSimpArgs false
namespace Go.Proofs.Ytakiojmjalbfpaa.Ring
open Go.RowKit Go.Proofs.YtakiojmjalbfpaaW.PrintWords Go.Proofs.YtakiojmjalbfpaaW.PrintLast Go.Proofs.YtakiojmjalbfpaaW.PrintMore
attribute [local go_sem] plus_setCell_drewN plus_cell_same
theorem ring_Look2 (w : World) (g B M : Nat) (q : List Int) (h : RingW w g B M q) (n : Int) (k : Nat) (hk : k = (q.take n.toNat).length) :
    Calls Try.prog 21 #[.pointer (some ⟨g, 0, none⟩), .int .i64 n] w fun e w' => ∃ A c, e = .returned (.slice A k c) ∧ Kd.R (Kd.int .u8) 5 w' w.heap.size (fun _ => True) (.slice A k c) (q.take n.toNat) ∧ Below w.heap.size w w' := by
  refine (ring_Look w g B M q h n).mono ?_
  rintro e w1 ⟨v, rfl, hR, hb⟩
  obtain ⟨Ao, co, eo⟩ := Kd.R_slice hR
  subst eo
  rw [← hk] at hR ⊢
  exact ⟨_, _, rfl, hR, hb⟩
set_option maxRecDepth 100000 in
theorem ring_Take (w : World) (g B M : Nat) (q : List Int) (h : RingW w g B M q) (n : Int) (k : Nat) (hk : k = (q.take n.toNat).length) :
    Calls Try.prog 23 #[.pointer (some ⟨g, 0, none⟩), .int .i64 n] w fun e w' => ∃ A c, e = .returned (.slice A k c) ∧ Kd.R (Kd.int .u8) 5 w' w.heap.size (fun _ => True) (.slice A k c) (q.take n.toNat) ∧ RingW w' g B M (q.drop n.toNat) ∧ Fr2 g B w w' := by
  have hu76 := Try.underlying76
  have hu30 := Try.underlying30
  have H := Lib.hid h
  have hlt := h.lt
  have hle := h.le
  have hgB := h.ne
  have hkq : k ≤ q.length := by rw [hk, List.length_take]; omega
  have HK := Lib.hid hk
  obtain ⟨f, bs, hg, hB, hl, hM, hq, hf, hc⟩ := h.ex
  have HG := Lib.hid hg
  have HBB := Lib.hid hB
  have HL := Lib.hid hl
  have HC := Lib.hid hc
  clear hk h hg hB hl hc
  by_cases hk0 : 0 < k
  · have hd : decide (0 < (k : Int)) = true := decide_eq_true (by omega)
    have R1 := Lib.hid (show ((f : Int) + (k : Int)) % (M : Int) = (((f + k) % M : Nat) : Int) by rw [Int.natCast_emod, Int.natCast_add])
    have R2 := Lib.hid (show (q.length : Int) - (k : Int) = ((q.length - k : Nat) : Int) by omega)
    have hM0 : ¬ (M : Int) = 0 := by omega
    go_enter Try.func23, Try.ntmps23
    go_wp2_with (go_at_call 21; refine (ring_Look2 w g B M q H.out n k HK.out).mono ?_; rintro e w1 ⟨A, c, rfl, hR, hb⟩)
    have HR := Lib.hid hR
    have HB := Lib.hid hb
    have D1 := Lib.hid (blk_below HG.out hb)
    have D2 := Lib.hid (blk_below HBB.out hb)
    clear hR hb
    obtain ⟨c0, c1, c2⟩ := blkc3 D1.out
    obtain ⟨f0, f1, f2⟩ := blkf3 D1.out
    go_region
    go_wp2
    go_ret
    have hfin1 := blk_put (blk_put (blk_drew D1.out) 1 (.int .i64 (((f : Int) + (k : Int)) % (M : Int))) rfl) 2 (.int .i64 ((q.length : Int) - (k : Int))) rfl
    have hfin2 := blk_far (blk_far (blk_drew D2.out) (show B ≠ (⟨g, 1, none⟩ : Addr).block from fun e => hgB e.symm) (.int .i64 (((f : Int) + (k : Int)) % (M : Int)))) (show B ≠ (⟨g, 2, none⟩ : Addr).block from fun e => hgB e.symm) (.int .i64 ((q.length : Int) - (k : Int)))
    have hfin3 := Kd.R_far (Kd.R_far (Kd.R_drew (Kd.R_bound HR.out)) (p := ⟨g, 1, none⟩) (fun k_ h_ => by have := h_.2.1; show k_ ≠ g; omega) (.int .i64 (((f : Int) + (k : Int)) % (M : Int)))) (p := ⟨g, 2, none⟩) (fun k_ h_ => by have := h_.2.1; show k_ ≠ g; omega) (.int .i64 ((q.length : Int) - (k : Int)))
    have hfr : Fr2 g B w ((w1.drew.setCell ⟨g, 1, none⟩ (.int .i64 (((f : Int) + (k : Int)) % (M : Int)))).setCell ⟨g, 2, none⟩ (.int .i64 ((q.length : Int) - (k : Int)))) := (Fr2.of_below HB.out).trans ((Fr2.of_below (below_drew (Below.refl _ _))).trans ((Fr2.set _ _ _).trans (Fr2.set _ _ _)))
    have hkn : (q.take n.toNat).length = k := HK.out.symm
    rw [List.length_take] at hkn
    have hdr : q.drop n.toNat = q.drop k := by
      rcases Nat.lt_or_ge n.toNat q.length with h0 | h0
      · rw [show n.toNat = k by omega]
      · rw [List.drop_eq_nil_of_le (by omega), List.drop_eq_nil_of_le (by omega)]
    refine ⟨_, _, rfl, Kd.R_mono hfin3 (fun _ _ => trivial), ⟨(f + k) % M, bs, ?_, hfin2, HL.out, hM, by rw [List.length_drop]; omega, .inr (Nat.mod_lt _ (by omega)), ?_⟩, hfr⟩
    · rw [hdr, List.length_drop, ← R1.out, ← R2.out]
      exact hfin1
    · rw [hdr]
      exact take_list bs q f M k (by omega) HC.out
  · have hd : decide (0 < (k : Int)) = false := decide_eq_false (by omega)
    go_enter Try.func23, Try.ntmps23
    go_wp2_with (go_at_call 21; refine (ring_Look2 w g B M q H.out n k HK.out).mono ?_; rintro e w1 ⟨A, c, rfl, hR, hb⟩)
    go_ret
    refine ⟨_, _, rfl, hR, ?_, Fr2.of_below hb⟩
    have h1 := H.out.below hb
    have h2 := HK.out
    rw [List.length_take] at h2
    rcases Nat.eq_zero_or_pos n.toNat with h0 | h0
    · rw [h0, List.drop_zero]
      exact h1
    · have : q = [] := List.eq_nil_of_length_eq_zero (by omega)
      subst this
      rw [List.drop_nil]
      exact h1
end Go.Proofs.Ytakiojmjalbfpaa.Ring
set_option linter.unusedVariables false
set_option linter.unusedSimpArgs false
namespace Go.Proofs.Ytakiojmjalbfpaa.Ring
open Go.RowKit Go.Proofs.YtakiojmjalbfpaaW.PrintWords Go.Proofs.YtakiojmjalbfpaaW.PrintLast Go.Proofs.YtakiojmjalbfpaaW.PrintMore
attribute [local go_sem] plus_setCell_drewN plus_cell_same
theorem C_grown {w w1 : World} {A : Option Addr} {n : Nat} {l : List Int} {B : Nat} (h : Kd.C (Kd.int .u8) w A n l) (hg : w.grownBy w1 (some B)) (hne : ∀ a, A = some a → a.block ≠ B) : Kd.C (Kd.int .u8) w1 A n l := by
  refine ⟨h.1, h.2.1, fun h0 => ?_⟩
  obtain ⟨ad, rfl, hr⟩ := h.2.2 h0
  refine ⟨ad, rfl, fun j p hp => ?_⟩
  obtain ⟨c, h1, h2, h3⟩ := hr j p hp
  refine ⟨c, h1, h2, fun i u hu => ?_⟩
  have hb : (ad.add (j * (Kd.int .u8).sz + i)).block = ad.block := by unfold Addr.add; split <;> rfl
  exact cell_grown hg (h3 i u hu) (fun e => hne ad rfl (by rw [← hb]; injection e))
theorem C_take {w : World} {A : Option Addr} {n : Nat} {l : List Int} (h : Kd.C (Kd.int .u8) w A n l) (m : Nat) (hm : m ≤ n) : Kd.C (Kd.int .u8) w A m (l.take m) := by
  have := C_cut h 0 m (by omega) A (fun _ => by cases A <;> simp [Addr.add])
  rwa [List.drop_zero] at this
theorem C_skip {w : World} {A A1 : Option Addr} {n : Nat} {l : List Int} (h : Kd.C (Kd.int .u8) w A n l) (d : Nat) (hd : d ≤ n) (hA : 0 < n - d → A1 = A.map (·.add d)) : Kd.C (Kd.int .u8) w A1 (n - d) (l.drop d) := by
  have := C_cut h d (n - d) (by omega) A1 hA
  rwa [List.take_of_length_le (by rw [List.length_drop]; have := h.1; omega)] at this
theorem cell_of_heap {w w1 : World} {a : Addr} (h : w1.heap[a.block]? = w.heap[a.block]?) : w1.cell? a = w.cell? a := by
  unfold World.cell?
  rw [h]
theorem R_args {w : World} {base B n c : Nat} {A : Option Addr} {l : List Int} {ok : Nat → Prop} (h : Kd.R (Kd.int .u8) 5 w base ok (.slice A n c) l) (hB : B < base) : n = l.length ∧ l.length ≤ c ∧ Kd.C (Kd.int .u8) w A l.length l ∧ (0 < l.length → ∀ a, A = some a → a.block ≠ B) := by
  obtain ⟨h1, h2, h3⟩ := Kd.R_reads' h
  subst h1
  refine ⟨rfl, h2, h3, fun h0 a ha => ?_⟩
  obtain ⟨g, cap, e, hg, _, _⟩ := Kd.R_form h h0
  injection e with e _ _
  rw [e] at ha
  injection ha with ha
  subst ha
  show g ≠ B
  omega
set_option maxRecDepth 100000 in
theorem ring_Put (w : World) (g B M : Nat) (q : List Int) (h : RingW w g B M q) (A0 : Option Addr) (c0 : Nat) (l : List Int) (hr : Kd.C (Kd.int .u8) w A0 l.length l) (hc0 : l.length ≤ c0) (hne : 0 < l.length → ∀ a, A0 = some a → a.block ≠ B) (m : Nat) (hm : m = min l.length (M - q.length)) :
    Calls Try.prog 18 #[.pointer (some ⟨g, 0, none⟩), .slice A0 l.length c0] w fun e w' => e = .returned (.int .i64 (m : Int)) ∧ RingW w' g B M (q ++ l.take m) ∧ Fr2 g B w w' := by
  have hu76 := Try.underlying76
  have hu30 := Try.underlying30
  have H := Lib.hid h
  have hlt := h.lt
  have hle := h.le
  have hgB := h.ne
  have HM := Lib.hid hm
  have HR := Lib.hid hr
  have HN := Lib.hid hne
  have hml : m ≤ l.length := by omega
  have hmc : m ≤ c0 := by omega
  have hl9 : l.length ≤ 9223372036854775807 := by have := hr.2.1; omega
  have hqm : q.length + m ≤ M := by omega
  have hch := cut_high A0 m l.length c0 hmc
  obtain ⟨r, hr_⟩ : ∃ r : Int, r = (M : Int) - q.length := ⟨_, rfl⟩
  have hmin : (m : Int) = min (l.length : Int) r := by omega
  have N1 := Lib.hid hr_
  have N2 := Lib.hid hmin
  obtain ⟨f, bs, hg, hB, hl, hM, hq, hf, hc⟩ := h.ex
  have HG := Lib.hid hg
  have HBB := Lib.hid hB
  have HL := Lib.hid hl
  have HC := Lib.hid hc
  clear hm h hg hB hl hc hr hr_ hne hmin
  by_cases hm0 : m = 0
  · subst hm0
    go_enter Try.func18, Try.ntmps18
    go_wp2_with (first | (go_at_call 26; refine (ring_Room w g B M q H.out).mono ?_; rintro e w1 ⟨rfl, nd, rfl⟩; rw [← N1.out]) | ((with_reducible refine gate_dst (N := 12) rfl ?_); refine wl_min rfl (.tmp 9) (.tmp 11) _ rfl .i64 l.length r 0 rfl rfl N2.out ?_))
    go_ret
    refine ⟨rfl, ?_, Fr2.of_below (pw_below_drewN (Below.refl _ _) _)⟩
    rw [List.take_zero, List.append_nil]
    exact H.out.below (pw_below_drewN (Below.refl _ _) _)
  · have hd : decide ((m : Int) = 0) = false := decide_eq_false (by omega)
    go_enter Try.func18, Try.ntmps18
    go_wp2_with (first | (go_at_call 26; refine (ring_Room w g B M q H.out).mono ?_; rintro e w1 ⟨rfl, nd, rfl⟩; rw [← N1.out]) | ((with_reducible refine gate_dst (N := 12) rfl ?_); refine wl_min rfl (.tmp 9) (.tmp 11) _ rfl .i64 l.length r m rfl rfl N2.out ?_))
    have D1 := Lib.hid (blk_drewN HG.out nd)
    have D2 := Lib.hid (blk_drewN HBB.out nd)
    have D3 := Lib.hid (Kd.C_drewN HR.out nd)
    have D4 : Hid (Fr2 g B w (w.drewN nd)) := Fr2.of_below (pw_below_drewN (Below.refl _ _) _)
    generalize w.drewN nd = w1 at *
    obtain ⟨c0_, c1, c2⟩ := blkc3 D1.out
    have hM0 : ¬ (M : Int) = 0 := by omega
    obtain ⟨t, ht⟩ : ∃ t, t = (f + q.length) % M := ⟨_, rfl⟩
    have htM : t < M := by rw [ht]; exact Nat.mod_lt _ (by omega)
    have hte : ((f : Int) + (q.length : Int)) % (M : Int) = (t : Int) := by rw [ht, Int.natCast_emod, Int.natCast_add]
    obtain ⟨A1, hA1, hsl⟩ := cut_low B t M M (by omega) (Nat.le_refl _)
    obtain ⟨d, hd_⟩ : ∃ d, d = min m (M - t) := ⟨_, rfl⟩
    obtain ⟨A2, hA2, hsl2⟩ := cut_low_any A0 d m c0 (by omega) hmc
    have T1 := Lib.hid ht
    have T2 := Lib.hid hA1
    have T3 := Lib.hid hd_
    have T4 := Lib.hid hA2
    clear ht hA1 hd_ hA2
    go_quiet (fail)
    rw [hte]
    clear hte
    have D5 := Lib.hid (blk_drewN D1.out nq)
    have D6 := Lib.hid (blk_drewN D2.out nq)
    have D7 := Lib.hid (Kd.C_drewN D3.out nq)
    have D8 := Lib.hid (D4.out.trans (Fr2.of_below (pw_below_drewN (Below.refl _ _) nq)))
    generalize w1.drewN nq = w2 at *
    clear c0_ c1 c2 D1 D2 D3 D4
    obtain ⟨c0_, c1, c2⟩ := blkc3 D5.out
    go_wp2_with ((with_reducible refine gate_builtin (b := .copy) (xs := #[.tmp 37, .tmp 38]) (ts := #[30, 30]) rfl ?_); refine wl_copy rfl (.tmp 37) (.tmp 38) 30 30 rfl Try.underlying30 (by kernel_rfl) B t (M - t) (M - t) m c0 _ _ bs (l.take m) d T3.out rfl rfl D6.out (fun h => T2.out (by have := T3.out; omega)) (by have := HL.out; omega) (C_take D7.out m hml) ?_; intro w3 hH hG)
    have E3 := Lib.hid hH
    have E1 := Lib.hid (blk_grown D5.out hG (by simp; exact hgB))
    have E2 := Lib.hid (C_grown (C_take D7.out m hml) hG (HN.out (by omega)))
    have E4 := Lib.hid (D8.out.trans (Fr2.of_grown hG (.inr (.inl rfl))))
    clear hH hG D5 D6 D7 D8 c0_ c1 c2
    obtain ⟨c0_, c1, c2⟩ := blkc3 E1.out
    go_region_law (refine wl_copy_step (by rfl) (.tmp 43) (.tmp 46) 30 30 rfl Try.underlying30 (by kernel_rfl) B 0 M M (m - d) (c0 - d) _ _ (Kd.laid bs t d (l.take m)) ((l.take m).drop d) (m - d) (by omega) rfl rfl E3.out (fun _ => rfl) (by rw [Kd.laid_length _ _ _ _ (by have := T3.out; have := HL.out; omega) (by rw [List.length_take]; have := T3.out; omega)]; have := HL.out; omega) (C_skip E2.out d (by have := T3.out; omega) T4.out) ?_; intro w4 hH hG; have F3 := Lib.hid hH; have F1 := Lib.hid (blk_grown (w := w3.drew) E1.out hG (by simp; exact hgB)); have F4 := Lib.hid ((E4.out.trans (Fr2.of_below (below_drew (Below.refl _ _)))).trans (Fr2.of_grown hG (.inr (.inl rfl)))); clear hH hG E1 E2 E3 E4 c0_ c1 c2)
    all_goals
      obtain ⟨c0_, c1, c2⟩ := blkc3 F1.out
      obtain ⟨f0_, f1_, f2_⟩ := blkf3 F1.out
      go_wp2
      go_ret
      have hfin1 := blk_put F1.out 2 (.int .i64 ((q.length : Int) + (m : Int))) rfl
      have hfin2 := blk_far F3.out (show B ≠ (⟨g, 2, none⟩ : Addr).block from fun e => hgB e.symm) (.int .i64 ((q.length : Int) + (m : Int)))
      have hlm : (q ++ l.take m).length = q.length + m := by rw [List.length_append, List.length_take, Nat.min_eq_left hml]
      refine ⟨rfl, ⟨f, _, ?_, hfin2, ?_, hM, by omega, hf, ?_⟩, F4.out.trans (Fr2.set _ _ _)⟩
      · rw [hlm, Int.natCast_add]
        exact hfin1
      · rw [Kd.laid_length _ _ _ _ (by rw [Kd.laid_length _ _ _ _ (by have := T3.out; have := HL.out; omega) (by rw [List.length_take]; have := T3.out; omega)]; have := HL.out; have := T3.out; omega) (by rw [List.length_drop, List.length_take]; have := T3.out; omega), Kd.laid_length _ _ _ _ (by have := T3.out; have := HL.out; omega) (by rw [List.length_take]; have := T3.out; omega)]
        exact HL.out
      · have := put_list bs q l f M m d HL.out hf hml hqm (by omega) (by rw [← T1.out]; exact T3.out) HC.out
        rw [← T1.out] at this
        exact this
end Go.Proofs.Ytakiojmjalbfpaa.Ring
namespace Go.Proofs.Ytakiojmjalbfpaa.PRing
open Go.RowKit Go.Proofs.YtakiojmjalbfpaaW.PrintWords Go.Proofs.YtakiojmjalbfpaaW.PrintLast Go.Proofs.YtakiojmjalbfpaaW.PrintMore
attribute [local go_sem] max2_int min2_int max_two min_two max_three min_three max_four min_four plus_setCell_drewN plus_cell_same   -- for this text's walks alone
set_option linter.unusedVariables false
set_option linter.unusedSimpArgs false
def errW : Option Int → Value
 | none => .nilIface
 | some c => .iface 0 (.int .i64 c)
theorem errW_none : errW none = .nilIface := rfl
theorem errW_some (c : Int) : errW (some c) = .iface 0 (.int .i64 c) := rfl
theorem info5 : (Try.prog.info? 5).map (fun i => (i.zero, i.size, i.bytes)) = some (some (.int .u8 0), 1, 1) := by kernel_rfl
end Go.Proofs.Ytakiojmjalbfpaa.PRing
namespace Go.Proofs.Ytakiojmjalbfpaa.PRing
open Go.RowKit Go.Proofs.YtakiojmjalbfpaaW.PrintWords Go.Proofs.YtakiojmjalbfpaaW.PrintLast Go.Proofs.YtakiojmjalbfpaaW.PrintMore
attribute [local go_sem] max2_int min2_int max_two min_two max_three min_three max_four min_four plus_setCell_drewN plus_cell_same   -- for this text's walks alone
set_option linter.unusedVariables false
set_option linter.unusedSimpArgs false
def busbarlaw0_Within.f (a0 : Int) (a1 : Int) : Option (Int) := if a1 = 0 then (none) else (if (Int.tmod a0 a1) < 0 then (some (wrap64 ((Int.tmod a0 a1) + a1))) else (some (Int.tmod a0 a1)))
set_option maxHeartbeats 8000000 in
set_option maxRecDepth 100000 in
theorem busbarlaw0_Within.calls (a0 : Int) (a1 : Int) (r : Int) (w : World) (h : busbarlaw0_Within.f a0 a1 = some r) :
  Calls Try.prog 12 #[.int .i64 a0, .int .i64 a1] w fun e w' => e = .returned (.int .i64 r) ∧ Drawn0 w w' := by
 have H : (if a1 = 0 then (none) else (if (Int.tmod a0 a1) < 0 then (some (wrap64 ((Int.tmod a0 a1) + a1))) else (some (Int.tmod a0 a1)))) = some r := h
 clear h
 by_cases c3 : a1 = 0
 ·
  rw [if_pos c3] at H
  exact absurd H (by simp)
 ·
  rw [if_neg c3] at H
  have c3b0 : (a1 == 0) = false := beq_eq_false_iff_ne.mpr c3
  have c3b1 : (a1 != 0) = true := bne_iff_ne.mpr c3
  by_cases c4 : (Int.tmod a0 a1) < 0
  ·
   rw [if_pos c4] at H
   have c4b0 : decide ((Int.tmod a0 a1) < 0) = true := decide_eq_true c4
   clear c4
   obtain rfl := Option.some.inj H
   go_enter Try.func12, Try.ntmps12
   go_wp2
   go_ret
   exact ⟨by first | rfl | (simp; done) | (simp [*]; done), by repeat (first | exact Drawn0.refl _ | apply Drawn0.step)⟩
  ·
   rw [if_neg c4] at H
   have c4b0 : decide ((Int.tmod a0 a1) < 0) = false := decide_eq_false c4
   clear c4
   obtain rfl := Option.some.inj H
   go_enter Try.func12, Try.ntmps12
   go_wp2
   go_ret
   exact ⟨by first | rfl | (simp; done) | (simp [*]; done), by repeat (first | exact Drawn0.refl _ | apply Drawn0.step)⟩
end Go.Proofs.Ytakiojmjalbfpaa.PRing
namespace Go.Proofs.Ytakiojmjalbfpaa.PRing
open Go.RowKit Go.Proofs.YtakiojmjalbfpaaW.PrintWords Go.Proofs.YtakiojmjalbfpaaW.PrintLast Go.Proofs.YtakiojmjalbfpaaW.PrintMore
attribute [local go_sem] max2_int min2_int max_two min_two max_three min_three max_four min_four plus_setCell_drewN plus_cell_same   -- for this text's walks alone
set_option linter.unusedVariables false
set_option linter.unusedSimpArgs false
def busbarlaw0_Digit.f (a0 : Int) (a1 : Int) (a2 : Int) : Option (Int) := if a1 = 0 then (none) else ((busbarlaw0_Within.f (wrap64 (Int.tdiv a0 a1)) a2).bind fun t113 => (some t113))
set_option maxHeartbeats 8000000 in
set_option maxRecDepth 100000 in
theorem busbarlaw0_Digit.calls (a0 : Int) (a1 : Int) (a2 : Int) (r : Int) (w : World) (h : busbarlaw0_Digit.f a0 a1 a2 = some r) :
  Calls Try.prog 15 #[.int .i64 a0, .int .i64 a1, .int .i64 a2] w fun e w' => e = .returned (.int .i64 r) ∧ Drawn0 w w' := by
 have H : (if a1 = 0 then (none) else ((busbarlaw0_Within.f (wrap64 (Int.tdiv a0 a1)) a2).bind fun t113 => (some t113))) = some r := h
 clear h
 by_cases c4 : a1 = 0
 ·
  rw [if_pos c4] at H
  exact absurd H (by simp)
 ·
  rw [if_neg c4] at H
  have c4b0 : (a1 == 0) = false := beq_eq_false_iff_ne.mpr c4
  have c4b1 : (a1 != 0) = true := bne_iff_ne.mpr c4
  replace H := Option.bind_eq_some_iff.mp H
  obtain ⟨t113, A50, H⟩ := H
  replace H : (some t113) = some r := H
  have A5 := Aside0.mk A50
  clear A50
  obtain rfl := Option.some.inj H
  go_enter Try.func15, Try.ntmps15
  go_wp2_with (first | ((with_reducible refine gate_callee (f := 12) rfl ?_); refine goesL_ (some 11) rfl rfl Try.func12 (by kernel_rfl) rfl #[.int .i64 (wrap64 (Int.tdiv a0 a1)), .int .i64 a2] rfl (by (try simp only [List.map_toArray, List.map_cons, List.map_nil]); first | done | rfl | (simp only [List.length_drop, List.length_take]; rfl)) ?_; (with_reducible refine (busbarlaw0_Within.calls (wrap64 (Int.tdiv a0 a1)) a2 t113 _ A5.out).mono ?_); rintro e w' ⟨rfl, ⟨nd, rfl⟩⟩; refine ⟨_, rfl, ?_⟩))
  go_ret
  exact ⟨by first | rfl | (simp; done) | (simp [*]; done), by repeat (first | exact Drawn0.refl _ | apply Drawn0.step)⟩
end Go.Proofs.Ytakiojmjalbfpaa.PRing
namespace Go.Proofs.Ytakiojmjalbfpaa.PRing
open Go.RowKit Go.Proofs.YtakiojmjalbfpaaW.PrintWords Go.Proofs.YtakiojmjalbfpaaW.PrintLast Go.Proofs.YtakiojmjalbfpaaW.PrintMore
attribute [local go_sem] max2_int min2_int max_two min_two max_three min_three max_four min_four plus_setCell_drewN plus_cell_same   -- for this text's walks alone
set_option linter.unusedVariables false
set_option linter.unusedSimpArgs false
def busbarlaw9_some.l0 : Nat → Int → Int → List Int → Int → Option (List Int)
 | 0, _, _, _, _ => none
 | k + 1, x0, x1, x5, x6 => if x6 < x1 then (if x5.length < 140737488355328 then (busbarlaw9_some.l0 k x0 x1 (x5 ++ [(wrap64 (x0 + x6)) % 256]) (wrap64 (x6 + 1))) else (none)) else (some x5)
def busbarlaw9_some.f (k : Nat) (a0 : Int) (a1 : Int) : Option (List Int) := busbarlaw9_some.l0 k a0 a1 ([] : List Int) 0
theorem busbarlaw9_some.mono_l : ∀ k, (∀ y0 y1 y2 y3, LeO (busbarlaw9_some.l0 k y0 y1 y2 y3) (busbarlaw9_some.l0 (k + 1) y0 y1 y2 y3))
 | 0 => fun _ _ _ _ r h => by simp [busbarlaw9_some.l0] at h
 | k + 1 => by
  have ih0 := busbarlaw9_some.mono_l k
  ·
   intro y0 y1 y2 y3
   unfold busbarlaw9_some.l0
   repeat' first
   | (with_reducible exact ih0 _ _ _ _)
   | (with_reducible exact LeO.refl _)
   | (with_reducible exact LeO.none _)
   | (with_reducible refine LeO.ite ?_ ?_)
   | (with_reducible refine LeO.bind ?_ (fun _ => ?_))
   | exact ih0 _ _ _ _
   | exact LeO.none _
   | refine LeO.ite ?_ ?_
   | refine LeO.bind ?_ (fun _ => ?_)
theorem busbarlaw9_some.mono : ∀ a0 a1 k, LeO (busbarlaw9_some.f k a0 a1) (busbarlaw9_some.f (k + 1) a0 a1) := by
 intro a0 a1 k
 have ih0 := busbarlaw9_some.mono_l k
 unfold busbarlaw9_some.f
 repeat' first
   | (with_reducible exact ih0 _ _ _ _)
   | (with_reducible exact LeO.refl _)
   | (with_reducible exact LeO.none _)
   | (with_reducible refine LeO.ite ?_ ?_)
   | (with_reducible refine LeO.bind ?_ (fun _ => ?_))
   | exact ih0 _ _ _ _
   | exact LeO.none _
   | refine LeO.ite ?_ ?_
   | refine LeO.bind ?_ (fun _ => ?_)
set_option maxHeartbeats 8000000 in
set_option maxRecDepth 100000 in
theorem busbarlaw9_some.calls (k : Nat) (a0 : Int) (a1 : Int) (r : List Int) (w : World) (h : busbarlaw9_some.f k a0 a1 = some r) :
  Calls Try.prog 16 #[.int .i64 a0, .int .i64 a1] w fun e w' => ∃ v0_ : Value, e = .returned (v0_) ∧ Kd.R (Kd.int .u8) 5 w' w.heap.size (fun _ => True) v0_ r ∧ Below w.heap.size w w' := by
 have HB := Aside0.mk (Below.refl w.heap.size w)
 have H : (busbarlaw9_some.l0 k a0 a1 ([] : List Int) 0) = some r := h
 clear h
 have H' := Aside0.mk H
 clear H
 go_enter Try.func16, Try.ntmps16
 go_wp2
 go_loopg [5, 6] k (fun kq v5 v6 w' => ∃ (x5_1 : List Int) (x6_1 : Int), v6 = .int .i64 x6_1 ∧ Aside0 (busbarlaw9_some.l0 kq a0 a1 x5_1 x6_1 = some r) ∧ Aside0 (kq ≤ k) ∧ Aside0 (Kd.R (Kd.int .u8) 5 w' w.heap.size (fun _ => True) v5 x5_1) ∧ Aside0 (Below w.heap.size w w'))
 case atStart => exact ⟨(([] : List Int)), (0), (by first | rfl | (simp; done) | (simp [*]; done)), H', ⟨Nat.le_refl _⟩, ⟨by first | exact Kd.R_nil _ _ _ _ _ | exact Kd.N_nil _ _ _ _ _ | exact Kd.V_nil _ _ _ _ _ | exact Kd.Q_nil _ _ _ _ _ | exact Kd.S_nil _ _ _ _ _⟩, ⟨by repeat (first | (with_reducible first | exact HB.out | apply below_alloc | apply pw_below_drewN | apply below_drew1) | exact HB.out)⟩⟩
 case round =>
  clear H'
  try clear c1
  try clear p2
  obtain ⟨x5_1, x6_1, rfl, HA, HK1, HO_5, HB⟩ := hrel
  cases gk with
  | zero => exact absurd HA.out (by simp [busbarlaw9_some.l0])
  | succ k1 =>
   have H := HA.out
   clear HA
   simp only [busbarlaw9_some.l0] at H
   by_cases c3 : x6_1 < a1
   ·
    rw [if_pos c3] at H
    have c3b0 : decide (x6_1 < a1) = true := decide_eq_true c3
    clear c3
    by_cases c4 : x5_1.length < 140737488355328
    ·
     rw [if_pos c4] at H
     have LMc4 := Aside0.mk c4
     clear c4
     obtain ⟨y114, hy114⟩ : ∃ y_ : List Int, y_ = (x5_1 ++ [(wrap64 (a0 + x6_1)) % 256]) := ⟨_, rfl⟩
     replace H : (busbarlaw9_some.l0 k1 a0 a1 y114 (wrap64 (x6_1 + 1))) = some r := by first | (rw [hy114]; with_reducible exact H) | (have H2_ := (Option.bind_some _ _).symm.trans H; rw [hy114]; with_reducible exact H2_) | (have H2_ := (Option.bind_some _ _).symm.trans H; with_reducible exact H2_) | with_reducible exact H | (rw [hy114]; exact H) | exact H
     have Ny114 := Aside0.mk hy114
     clear hy114
     have H' := Aside0.mk H
     clear H
     go_wp2_with (first | ((with_reducible refine gate_builtin (b := .append) (xs := #[.tmp 12, .tmp 17]) rfl ?_); at_builtin; refine Kd.R_append (Kd.int .u8) (w0 := w) w.heap.size rfl (.tmp 12) (.tmp 17) 30 5 (.int .u8 0) 1 rfl Try.underlying30 info5 rfl (by decide) (by omega) u5 x5_1 ((wrap64 (a0 + x6_1)) % 256) [.int .u8 ((wrap64 (a0 + x6_1)) % 256)] (fun _ => True) (fun _ => False) rfl rfl ?aP (fun _ hk => hk.elim) ?aF ?aO ?aB ?aS ?aL ?_; (case aP => exact rfl); (case aB => exact (by repeat (first | (with_reducible first | exact HB.out | apply below_alloc | apply pw_below_drewN | apply below_drew1) | exact HB.out))); (case aF => exact (fun _ _ => trivial)); (case aO => exact (by (with_reducible repeat (first | apply Kd.R_alloc | apply Kd.R_drewN | apply Kd.R_drew)); exact HO_5.out)); (case aS => exact (below_size (by repeat (first | (with_reducible first | exact HB.out | apply below_alloc | apply pw_below_drewN | apply below_drew1) | exact HB.out)))); (case aL => have := LMc4.out; omega); intro v115 w5 ho hb hg hat; rw [← Ny114.out] at ho; have n0_ := Aside0.mk (hb); have n1_ := Aside0.mk (ho); clear HB; clear HO_5; have HB := n0_; have HO116 := n1_; clear n0_ n1_; clear ho hb hg hat))
     go_roundg k1
     case measure => have := HK1.out; omega
     case rel => exact ⟨(y114), (wrap64 (x6_1 + 1)), (by first | rfl | (simp; done) | (simp [*]; done)), H', ⟨by have := HK1.out; omega⟩, ⟨by (with_reducible repeat (first | apply Kd.R_alloc | apply Kd.R_drewN | apply Kd.R_drew)); exact HO116.out⟩, ⟨by repeat (first | (with_reducible first | exact HB.out | apply below_alloc | apply pw_below_drewN | apply below_drew1) | exact HB.out)⟩⟩
    ·
     rw [if_neg c4] at H
     exact absurd H (by simp)
   ·
    rw [if_neg c3] at H
    have c3b0 : decide (x6_1 < a1) = false := decide_eq_false c3
    clear c3
    obtain rfl := Option.some.inj H
    go_wp2
    go_ret
    exact ⟨_, by first | rfl | (simp [errW_none, errW_some] <;> rfl) | (simp [*, errW_none, errW_some] <;> rfl), by (with_reducible repeat (first | apply Kd.R_alloc | apply Kd.R_drewN | apply Kd.R_drew)); exact HO_5.out, by repeat (first | (with_reducible first | exact HB.out | apply below_alloc | apply pw_below_drewN | apply below_drew1) | exact HB.out)⟩
end Go.Proofs.Ytakiojmjalbfpaa.PRing
set_option linter.unusedVariables false
set_option linter.unusedSimpArgs false
namespace Go.Proofs.Ytakiojmjalbfpaa.Ring
open Go.RowKit Go.Proofs.YtakiojmjalbfpaaW.PrintWords Go.Proofs.YtakiojmjalbfpaaW.PrintLast Go.Proofs.YtakiojmjalbfpaaW.PrintMore Go.Proofs.Ytakiojmjalbfpaa.PRing
attribute [local go_sem] plus_setCell_drewN plus_cell_same
end Go.Proofs.Ytakiojmjalbfpaa.Ring
set_option linter.unusedVariables false
set_option linter.unusedSimpArgs false
namespace Go.Proofs.Ytakiojmjalbfpaa.Ring
open Go.RowKit Go.Proofs.YtakiojmjalbfpaaW.PrintWords Go.Proofs.YtakiojmjalbfpaaW.PrintLast Go.Proofs.YtakiojmjalbfpaaW.PrintMore Go.Proofs.Ytakiojmjalbfpaa.PRing
attribute [local go_sem] plus_setCell_drewN plus_cell_same
theorem wrap64_in {x : Int} (h1 : -9223372036854775808 ≤ x) (h2 : x < 9223372036854775808) : wrap64 x = x := by unfold wrap64; omega
theorem within_f (a n : Int) (hn : 0 < n) (hn2 : n < 4611686018427387904) : busbarlaw0_Within.f a n = some (a % n) := by
  unfold busbarlaw0_Within.f
  rw [if_neg (by omega)]
  by_cases h : Int.tmod a n < 0
  · rw [if_pos h]
    congr 1
    have h2 := Int.tmod_lt_of_pos a hn
    have h3 : a % n = Int.tmod a n + n := by
      rw [Int.tmod_eq_emod] at h ⊢
      split at h
      · have := Int.emod_nonneg a (show n ≠ 0 by omega); omega
      · rename_i hc
        rw [if_neg hc]
        omega
    rw [wrap64_in (by have := Int.emod_nonneg a (show n ≠ 0 by omega); omega) (by have := Int.emod_lt_of_pos a hn; omega), h3]
  · rw [if_neg h]
    congr 1
    rw [Int.tmod_eq_emod] at h ⊢
    split at h
    · rename_i hc; rw [if_pos hc]; omega
    · exfalso
      have := Int.emod_lt_of_pos a hn
      omega
theorem within_calls (a n : Int) (hn : 0 < n) (hn2 : n < 4611686018427387904) (w : World) : Calls Try.prog 12 #[.int .i64 a, .int .i64 n] w fun e w' => e = .returned (.int .i64 (a % n)) ∧ ∃ nd, w' = w.drewN nd := by
  refine (busbarlaw0_Within.calls a n (a % n) w (within_f a n hn hn2)).mono ?_
  rintro e w1 ⟨rfl, hd⟩
  exact ⟨rfl, hd.out⟩
end Go.Proofs.Ytakiojmjalbfpaa.Ring
set_option linter.unusedVariables false
set_option linter.unusedSimpArgs false
namespace Go.Proofs.Ytakiojmjalbfpaa.Ring
open Go.RowKit Go.Proofs.YtakiojmjalbfpaaW.PrintWords Go.Proofs.YtakiojmjalbfpaaW.PrintLast Go.Proofs.YtakiojmjalbfpaaW.PrintMore Go.Proofs.Ytakiojmjalbfpaa.PRing
attribute [local go_sem] max2_int min2_int max_two min_two plus_setCell_drewN plus_cell_same
structure St (w0 : World) (g B M : Nat) (q : List Int) (w : World) : Prop where
  r : RingW w g B M q
  b : Below w0.heap.size w0 w
  g0 : w0.heap.size ≤ g
  B0 : w0.heap.size ≤ B
theorem St.below {w0 w w1 : World} {g B M : Nat} {q : List Int} (h : St w0 g B M q w) (hb : Below w.heap.size w w1) : St w0 g B M q w1 := ⟨h.r.below hb, below_then h.b h.b.size hb, h.g0, h.B0⟩
theorem St.next {w0 w w1 : World} {g B M : Nat} {q q1 : List Int} (h : St w0 g B M q w) (hr : RingW w1 g B M q1) (hf : Fr2 g B w w1) : St w0 g B M q1 w1 := ⟨hr, hf.below h.b h.b.size h.g0 h.B0, h.g0, h.B0⟩
theorem within_b (a n : Int) (hn : 0 < n) (hn2 : n < 4611686018427387904) (w : World) : Calls Try.prog 12 #[.int .i64 a, .int .i64 n] w fun e w' => e = .returned (.int .i64 (a % n)) ∧ Below w.heap.size w w' := by
  refine (within_calls a n hn hn2 w).mono ?_
  rintro e w1 ⟨rfl, nd, rfl⟩
  exact ⟨rfl, pw_below_drewN (Below.refl _ _) nd⟩
theorem len_b (w : World) (g B M : Nat) (q : List Int) (h : RingW w g B M q) : Calls Try.prog 25 #[.pointer (some ⟨g, 0, none⟩)] w fun e w' => e = .returned (.int .i64 (q.length : Int)) ∧ Below w.heap.size w w' := by
  refine (ring_Len w g B M q h).mono ?_
  rintro e w1 ⟨rfl, nd, rfl⟩
  exact ⟨rfl, pw_below_drewN (Below.refl _ _) nd⟩
theorem ring_Put_n (w : World) (g B M : Nat) (q : List Int) (h : RingW w g B M q) (A0 : Option Addr) (n c0 : Nat) (l : List Int) (hn : n = l.length) (hr : Kd.C (Kd.int .u8) w A0 n l) (hc0 : n ≤ c0) (hne : 0 < n → ∀ a, A0 = some a → a.block ≠ B) (m : Nat) (hm : m = min n (M - q.length)) :
    Calls Try.prog 18 #[.pointer (some ⟨g, 0, none⟩), .slice A0 n c0] w fun e w' => e = .returned (.int .i64 (m : Int)) ∧ RingW w' g B M (q ++ l.take m) ∧ Fr2 g B w w' := by
  subst hn
  exact ring_Put w g B M q h A0 c0 l hr hc0 hne m hm
theorem St.grown {w0 w w1 : World} {g B M : Nat} {q : List Int} (h : St w0 g B M q w) {r : Option Nat} (hg : w.grownBy w1 r) (hr : ∀ k, r = some k → k ≠ g ∧ k ≠ B ∧ w0.heap.size ≤ k) : St w0 g B M q w1 :=
  ⟨h.r.grown hg (fun e => (hr g e.symm).1 rfl) (fun e => (hr B e.symm).2.1 rfl), h.b.grown hg h.b.size (fun k hk => (hr k hk).2.2), h.g0, h.B0⟩
theorem C_lt {k : IntKind} {w : World} {A : Option Addr} {n : Nat} {l : List Int} (h : Kd.C (Kd.int k) w A n l) (h0 : 0 < n) : ∀ a, A = some a → a.block < w.heap.size := by
  intro a ha
  obtain ⟨ad, e, hx⟩ := Kd.at_int h 0 (by omega) (by omega)
  rw [ha] at e
  injection e with e
  subst e
  have := World.block_lt_of_cell? _ _ hx
  have e1 : (a.add (0 : Int).toNat).block = a.block := by unfold Addr.add; split <;> rfl
  rwa [e1] at this
end Go.Proofs.Ytakiojmjalbfpaa.Ring
set_option linter.unusedVariables false
set_option linter.unusedSimpArgs false
namespace Go.Proofs.Ytakiojmjalbfpaa.Ring
open Go.RowKit Go.Proofs.YtakiojmjalbfpaaW.PrintWords Go.Proofs.YtakiojmjalbfpaaW.PrintLast Go.Proofs.YtakiojmjalbfpaaW.PrintMore Go.Proofs.Ytakiojmjalbfpaa.PFlow Go.Proofs.Ytakiojmjalbfpaa.Num Go.Proofs.Ytakiojmjalbfpaa.LemPkFlow Go.Proofs.Ytakiojmjalbfpaa.LemAskCFlow Go.Proofs.Ytakiojmjalbfpaa.LemAskDFlow
structure AskIn (w : World) (a : Value) (p : List Int) : Prop where
  ex : ∃ (r1 r2 r3 r4 r5 r6 : Int) (r7 : List Bool) (r8 : List Int) (r9 r10 r11 r12 : Int) (A7 : Option Addr) (c7 : Nat) (A8 : Option Addr) (c8 : Nat), a = .agg #[.int .i64 r1, .int .i64 r2, .int .i64 r3, .int .u16 r4, .int .u16 r5, .int .u16 r6, .slice A7 r7.length c7, .slice A8 r8.length c8, .int .i64 r9, .int .i64 r10, .int .i64 r11, .int .i64 r12] ∧ Kd.C Kd.bool w A7 r7.length r7 ∧ r7.length ≤ c7 ∧ Kd.C (Kd.int .u16) w A8 r8.length r8 ∧ r8.length ≤ c8 ∧ busbarref5_AskBytes.f 100 r1 r2 r3 r4 r5 r6 r7 r8 r9 r10 r11 r12 = some (p, 0)
theorem ask_c (x v : Int) (hx : Bd x) (hv : Bd v) (w : World) : Calls Try.prog 29 #[.int .i64 x, .int .i64 v] w fun e w' => ∃ a, e = .returned a ∧ AskIn w' a (pk x v) ∧ Below w.heap.size w w' := by
  obtain ⟨⟨r1, r2, r3, r4, r5, r6, r7, r8, r9, r10, r11, r12⟩, h1, h2, h3, h4, h5⟩ := pk_spec x v hx hv
  refine (busbarlaw0_Ask.calls 100 x v r1 r2 r3 r4 r5 r6 r7 r8 r9 r10 r11 r12 w (h1 100 (Nat.le_refl _))).mono ?_
  rintro e w1 ⟨v6, v7, rfl, hR, hS, hb⟩
  obtain ⟨A7, c7, rfl⟩ := Kd.R_slice hR
  obtain ⟨A8, c8, rfl⟩ := Kd.R_slice hS
  exact ⟨_, rfl, ⟨r1, r2, r3, r4, r5, r6, r7, r8, r9, r10, r11, r12, A7, c7, A8, c8, rfl, (Kd.R_reads' hR).2.2, (Kd.R_reads' hR).2.1, (Kd.R_reads' hS).2.2, (Kd.R_reads' hS).2.1, h2 100 (Nat.le_refl _)⟩, hb⟩
theorem AskIn.below {w w1 : World} {a : Value} {p : List Int} (h : AskIn w a p) (hb : Below w.heap.size w w1) : AskIn w1 a p := by
  obtain ⟨r1, r2, r3, r4, r5, r6, r7, r8, r9, r10, r11, r12, A7, c7, A8, c8, ha, h1, h2, h3, h4, h5⟩ := h.ex
  exact ⟨r1, r2, r3, r4, r5, r6, r7, r8, r9, r10, r11, r12, A7, c7, A8, c8, ha, Kd.C_below h1 hb, h2, Kd.C_below h3 hb, h4, h5⟩
theorem askbytes_c (w : World) (a : Value) (p : List Int) (h : AskIn w a p) : Calls Try.prog 28 #[a] w fun e w' => ∃ A c, e = .returned (.tuple #[.slice A p.length c, .int .i64 0]) ∧ Kd.C (Kd.int .u8) w' A p.length p ∧ p.length ≤ c ∧ Below w.heap.size w w' := by
  obtain ⟨r1, r2, r3, r4, r5, r6, r7, r8, r9, r10, r11, r12, A7, c7, A8, c8, rfl, h1, h2, h3, h4, h5⟩ := h.ex
  refine (busbarref5_AskBytes.calls 100 r1 r2 r3 r4 r5 r6 A7 c7 r7 A8 c8 r8 r9 r10 r11 r12 p 0 w h1 h2 h3 h4 h5).mono ?_
  rintro e w1 ⟨v0, rfl, hV, hb⟩
  obtain ⟨A, c, rfl⟩ := Kd.V_slice hV
  exact ⟨A, c, rfl, (Kd.V_reads' hV).2.2, (Kd.V_reads' hV).2.1, hb⟩
end Go.Proofs.Ytakiojmjalbfpaa.Ring
set_option linter.unusedVariables false
set_option linter.unusedSimpArgs false
namespace Go.Proofs.Ytakiojmjalbfpaa.Ring
open Go.RowKit Go.Proofs.YtakiojmjalbfpaaW.PrintWords Go.Proofs.YtakiojmjalbfpaaW.PrintLast Go.Proofs.YtakiojmjalbfpaaW.PrintMore
attribute [local go_sem] plus_setCell_drewN plus_cell_same
structure FlowW (w : World) (gf g B M : Nat) (q : List Int) (bad : Bool) : Prop where
  f : w.heap[gf]? = some (.cells #[.pointer (some ⟨g, 0, none⟩), .bool bad] 89 (0, 0))
  r : RingW w g B M q
theorem FlowW.below {w w1 : World} {gf g B M : Nat} {q : List Int} {bad : Bool} (h : FlowW w gf g B M q bad) (hb : Below w.heap.size w w1) : FlowW w1 gf g B M q bad := ⟨blk_below h.f hb, h.r.below hb⟩
theorem FlowW.ne {w : World} {gf g B M : Nat} {q : List Int} {bad : Bool} (h : FlowW w gf g B M q bad) : gf ≠ g ∧ gf ≠ B := by
  obtain ⟨f, bs, hg, hB, _⟩ := h.r.ex
  have hf := h.f
  constructor
  · rintro rfl
    rw [hf] at hg
    simp at hg
  · rintro rfl
    rw [hf] at hB
    simp at hB
theorem FlowW.fr {w w1 : World} {gf g B M : Nat} {q q1 : List Int} {bad : Bool} (h : FlowW w gf g B M q bad) (hr : RingW w1 g B M q1) (hf : Fr2 g B w w1) : FlowW w1 gf g B M q1 bad := ⟨(hf.block gf (blk_lt h.f) h.ne.1 h.ne.2).trans h.f, hr⟩
theorem flow_Held (w : World) (gf g B M : Nat) (q : List Int) (bad : Bool) (h : FlowW w gf g B M q bad) : Calls Try.prog 37 #[.pointer (some ⟨gf, 0, none⟩)] w fun e w' => e = .returned (.int .i64 (q.length : Int)) ∧ Below w.heap.size w w' := by
  obtain ⟨c0, c1⟩ := blkc2 h.f
  have hu89 := Try.underlying89
  have H := Lib.hid h
  clear h
  go_enter Try.func37, Try.ntmps37
  go_wp2_with (fail)
  refine (len_b _ g B M q H.out.r).mono ?_
  rintro e w1 ⟨rfl, hb⟩
  go_wp2
  go_ret
  exact ⟨rfl, hb⟩
theorem flow_Bad (w : World) (gf g B M : Nat) (q : List Int) (bad : Bool) (h : FlowW w gf g B M q bad) : Calls Try.prog 42 #[.pointer (some ⟨gf, 0, none⟩)] w fun e w' => e = .returned (.bool bad) ∧ Below w.heap.size w w' := by
  obtain ⟨c0, c1⟩ := blkc2 h.f
  have hu89 := Try.underlying89
  have H := Lib.hid h
  clear h
  go_enter Try.func42, Try.ntmps42
  go_wp2_with (fail)
  go_ret
  exact ⟨rfl, Below.refl _ _⟩
theorem flow_New (n : Int) (M : Nat) (hM : M = (min (max n 260) 65536).toNat) (w : World) :
    Calls Try.prog 33 #[.int .i64 n] w fun e w' => ∃ gf g B, e = .returned (.pointer (some ⟨gf, 0, none⟩)) ∧ FlowW w' gf g B M [] false ∧ w.heap.size ≤ gf ∧ w.heap.size ≤ g ∧ w.heap.size ≤ B ∧ Below w.heap.size w w' := by
  have hu89 := Try.underlying89
  obtain ⟨n1, hn1⟩ : ∃ n1 : Int, n1 = max n 260 := ⟨_, rfl⟩
  have N1 := Lib.hid hn1
  have N2 := Lib.hid (show (min (max n1 0) 65536).toNat = M by omega)
  clear hn1 hM
  go_enter Try.func33, Try.ntmps33
  go_wp2_with ((with_reducible refine gate_dst (N := 4) rfl ?_); refine wl_max rfl (.tmp 3) (.const (.int .i64 260)) _ rfl .i64 n 260 n1 rfl rfl N1.out ?_)
  refine (ring_New n1 _).mono ?_
  rintro e w1 ⟨g, B, rfl, hr, hg, hB, hb⟩
  rw [N2.out] at hr
  have A1 := Lib.hid hr
  have A2 := Lib.hid hb
  have A3 := Lib.hid (And.intro hg hB)
  clear hr hb hg hB
  go_wp2_with (fail)
  go_ret
  exact ⟨_, g, B, rfl, ⟨blk_new _ _, A1.out.below ((Below.refl _ _).alloc (Nat.le_refl _) _)⟩, A2.out.size, A3.out.1, A3.out.2, A2.out.alloc A2.out.size _⟩
theorem flow_Feed (w : World) (gf g B M : Nat) (q : List Int) (bad : Bool) (h : FlowW w gf g B M q bad) (A0 : Option Addr) (n c0 : Nat) (l : List Int) (hn : n = l.length) (hr : Kd.C (Kd.int .u8) w A0 n l) (hc0 : n ≤ c0) (hne : 0 < n → ∀ a, A0 = some a → a.block ≠ B) (m : Nat) (hm : m = if bad then 0 else min n (M - q.length)) :
    Calls Try.prog 35 #[.pointer (some ⟨gf, 0, none⟩), .slice A0 n c0] w fun e w' => e = .returned (.int .i64 (m : Int)) ∧ FlowW w' gf g B M (q ++ l.take m) bad ∧ Fr2 g B w w' := by
  obtain ⟨c0_, c1⟩ := blkc2 h.f
  have hu89 := Try.underlying89
  have H := Lib.hid h
  have H1 := Lib.hid hr
  have H2 := Lib.hid hne
  have H3 := Lib.hid hm
  have H4 := Lib.hid hn
  clear h hr hne hm hn
  cases bad with
  | true =>
    go_enter Try.func35, Try.ntmps35
    go_wp2_with (fail)
    go_ret
    have hm := H3.out
    simp only [if_true] at hm
    subst hm
    exact ⟨rfl, by rw [List.take_zero, List.append_nil]; exact H.out, Fr2.of_below (Below.refl _ _)⟩
  | false =>
    go_enter Try.func35, Try.ntmps35
    go_wp2_with (fail)
    refine (ring_Put_n w g B M q H.out.r A0 n c0 l H4.out H1.out hc0 H2.out m (by have := H3.out; simpa using this)).mono ?_
    rintro e w1 ⟨rfl, hr, hf⟩
    go_wp2
    go_ret
    exact ⟨rfl, H.out.fr hr hf, hf⟩
theorem res3 {w : World} {g t : Nat} {x y z a b c : Value} (h : w.heap[g]? = some (.cells #[x, y, z] t (0, 0))) : (((w.setCell ⟨g, 0, none⟩ a).setCell ⟨g, 1, none⟩ b).setCell ⟨g, 2, none⟩ c).heap[g]? = some (.cells #[a, b, c] t (0, 0)) := blk_put (blk_put (blk_put h 0 a rfl) 1 b rfl) 2 c rfl
def firstOf (C : List Int → Int × Int × List Int × Int × Int) (q : List Int) (bad : Bool) : Int × Int × List Int × Int × Int := if bad then (0, 0, [], 0, 2) else C (q.take 260)
theorem flow_first (C : List Int → Int × Int × List Int × Int × Int) (w : World) (gf g B M : Nat) (q : List Int) (bad : Bool) (h : FlowW w gf g B M q bad)
    (hC : ∀ (W : World) (A : Option Addr) (n c : Nat), n = (q.take 260).length → Kd.C (Kd.int .u8) W A n (q.take 260) → n ≤ c → Calls Try.prog 31 #[.slice A n c] W fun e w' => ∃ v : Value, e = .returned (.tuple #[.agg #[.int .i64 (C (q.take 260)).1, .int .i64 (C (q.take 260)).2.1, v], .int .i64 (C (q.take 260)).2.2.2.1, .int .i64 (C (q.take 260)).2.2.2.2]) ∧ Kd.R (Kd.int .u8) 5 w' W.heap.size (fun _ => True) v (C (q.take 260)).2.2.1 ∧ Below W.heap.size W w')
    (t u : Int) (p : List Int) (n e0 : Int) (hf : firstOf C q bad = (t, u, p, n, e0)) :
    Calls Try.prog 55 #[.pointer (some ⟨gf, 0, none⟩)] w fun e w' => ∃ A c, e = .returned (.tuple #[.agg #[.int .i64 t, .int .i64 u, .slice A p.length c], .int .i64 n, .int .i64 e0]) ∧ Kd.R (Kd.int .u8) 5 w' w.heap.size (fun _ => True) (.slice A p.length c) p ∧ Below w.heap.size w w' := by
  obtain ⟨c0_, c1⟩ := blkc2 h.f
  have hgl := blk_lt h.f
  have hu89 := Try.underlying89
  have hu53 := Try.underlying53
  have hmf : ∀ (fn : Fn) (first cap : Array Value) (w : World), (Instr.makeFunc fn first cap).run Try.prog w = .ok (.func fn first cap) w := fun _ _ _ _ => rfl
  have H := Lib.hid h
  have H1 := Lib.hid hC
  clear h hC
  have d0 : (w.alloc (.cells #[.int .i64 0, .int .i64 0, .slice none 0 0] 53)).cell? ⟨gf, 0, none⟩ = some (.pointer (some ⟨g, 0, none⟩)) := (World.cell?_alloc_lt _ _ _ hgl).trans c0_
  have d1 : (w.alloc (.cells #[.int .i64 0, .int .i64 0, .slice none 0 0] 53)).cell? ⟨gf, 1, none⟩ = some (.bool bad) := (World.cell?_alloc_lt _ _ _ hgl).trans c1
  cases bad with
  | true =>
    have HF := Lib.hid hf
    clear hf
    go_enter Try.func55, Try.ntmps55
    go_wp2_with (fail)
    have hW := blk_new w (.cells #[.int .i64 0, .int .i64 0, .slice none 0 0] 53 (0, 0))
    have hWB := (Below.refl w.heap.size w).alloc (Nat.le_refl _) (.cells #[.int .i64 0, .int .i64 0, .slice none 0 0] 53)
    have hr0 := (blk_cell hW 0).trans rfl
    have hr1 := (blk_cell hW 1).trans rfl
    have hr2 := (blk_cell hW 2).trans rfl
    have hf := HF.out
    simp only [firstOf, if_true, Prod.mk.injEq] at hf
    obtain ⟨rfl, rfl, rfl, rfl, rfl⟩ := hf
    exact bodyPost_ret (v := .tuple #[.agg #[.int .i64 0, .int .i64 0, .slice none 0 0], .int .i64 0, .int .i64 2]) (by simp [results, Try.results55, go_sem, hr0, hr1, hr2]) rfl ⟨none, 0, rfl, Kd.R_nil _ _ _ _ _, hWB⟩
  | false =>
    have HF := Lib.hid hf
    obtain ⟨k, hk⟩ : ∃ k, k = (q.take (260 : Int).toNat).length := ⟨_, rfl⟩
    have HK := Lib.hid hk
    clear hf hk
    go_enter Try.func55, Try.ntmps55
    go_wp2_with (fail)
    refine (ring_Look2 _ g B M q (H.out.r.below ((Below.refl _ _).alloc (Nat.le_refl _) _)) 260 k HK.out).mono ?_
    rintro e w1 ⟨A1, c1', rfl, hR, hb⟩
    rw [show (260 : Int).toNat = 260 by omega] at hR
    have B1 := Lib.hid (blk_below (blk_new w (.cells #[.int .i64 0, .int .i64 0, .slice none 0 0] 53 (0, 0))) hb)
    have B2 := Lib.hid (((Below.refl w.heap.size w).alloc (Nat.le_refl _) _).trans (hb.mono (show w.heap.size ≤ _ by simp)))
    have B3 := Lib.hid hR
    have B4 := Lib.hid hb.size
    clear hb hR d0 d1
    go_wp2_with (fail)
    have hK := HK.out
    rw [show (260 : Int).toNat = 260 by omega] at hK
    refine (H1.out _ A1 k c1' hK (by have := (Kd.R_reads' B3.out).2.2; rwa [← (Kd.R_reads' B3.out).1] at this) (Kd.R_reads' B3.out).2.1).mono ?_
    have hf := HF.out
    simp only [firstOf, Bool.false_eq_true, if_false] at hf
    rw [hf]
    rintro e w2 ⟨v, rfl, hR, hb⟩
    obtain ⟨A2, c2, rfl⟩ := Kd.R_slice hR
    have D1 := Lib.hid (blk_below B1.out hb)
    have D2 := Lib.hid (below_then B2.out B2.out.size hb)
    have D3 := Lib.hid hR
    obtain ⟨e0_, e1_, e2_⟩ := blkc3 D1.out
    obtain ⟨f0_, f1_, f2_⟩ := blkf3 D1.out
    clear B1 B2 B3 hR hb hf hK
    go_wp2_with (fail)
    have hW := res3 (a := .int .i64 t) (b := .int .i64 u) (c := .slice A2 p.length c2) D1.out
    have hr0 := (blk_cell hW 0).trans rfl
    have hr1 := (blk_cell hW 1).trans rfl
    have hr2 := (blk_cell hW 2).trans rfl
    have hWB : Below w.heap.size w (((w2.setCell ⟨w.heap.size, 0, none⟩ (.int .i64 t)).setCell ⟨w.heap.size, 1, none⟩ (.int .i64 u)).setCell ⟨w.heap.size, 2, none⟩ (.slice A2 p.length c2)) := below_set (below_set (below_set D2.out (Nat.le_refl _)) (Nat.le_refl _)) (Nat.le_refl _)
    have hwl : w.heap.size < w1.heap.size := by have := B4.out; simp at this; omega
    have hR2 := Kd.R_far (Kd.R_far (Kd.R_far (Kd.R_bound D3.out) (p := ⟨w.heap.size, 0, none⟩) (fun k_ h_ => by have := h_.2.1; show k_ ≠ w.heap.size; omega) (.int .i64 t)) (p := ⟨w.heap.size, 1, none⟩) (fun k_ h_ => by have := h_.2.1; show k_ ≠ w.heap.size; omega) (.int .i64 u)) (p := ⟨w.heap.size, 2, none⟩) (fun k_ h_ => by have := h_.2.1; show k_ ≠ w.heap.size; omega) (.slice A2 p.length c2)
    exact bodyPost_ret (v := .tuple #[.agg #[.int .i64 t, .int .i64 u, .slice A2 p.length c2], .int .i64 n, .int .i64 e0]) (by simp [results, Try.results55, go_sem, hr0, hr1, hr2]) rfl ⟨A2, c2, rfl, Kd.R_mono (Kd.R_lower hR2 (by omega)) (fun _ _ => trivial), hWB⟩
structure Fr3 (a b c : Nat) (w w' : World) : Prop where
  os : w'.os = w.os
  tape : w'.tape = w.tape
  output : w'.output = w.output
  size : w.heap.size ≤ w'.heap.size
  block : ∀ i, i < w.heap.size → i ≠ a → i ≠ b → i ≠ c → w'.heap[i]? = w.heap[i]?
theorem Fr3.trans {a b c : Nat} {w w1 w2 : World} (h : Fr3 a b c w w1) (k : Fr3 a b c w1 w2) : Fr3 a b c w w2 := ⟨k.os.trans h.os, k.tape.trans h.tape, k.output.trans h.output, Nat.le_trans h.size k.size, fun i hi h1 h2 h3 => (k.block i (Nat.lt_of_lt_of_le hi h.size) h1 h2 h3).trans (h.block i hi h1 h2 h3)⟩
theorem Fr3.of_below {a b c : Nat} {w w1 : World} (h : Below w.heap.size w w1) : Fr3 a b c w w1 := ⟨h.os, h.tape, h.output, h.size, fun i hi _ _ _ => h.block i hi⟩
theorem Fr3.of_fr2 {a b c : Nat} {w w1 : World} (h : Fr2 b c w w1) : Fr3 a b c w w1 := ⟨h.os, h.tape, h.output, h.size, fun i hi _ h2 h3 => h.block i hi h2 h3⟩
theorem Fr3.set {a b c : Nat} (w : World) (i : Nat) (v : Value) : Fr3 a b c w (w.setCell ⟨a, i, none⟩ v) := ⟨rfl, rfl, rfl, by simp [World.setCell], fun j hj h1 h2 h3 => Below.heap_setCell w _ v j h1⟩
theorem Fr3.below {a b c n : Nat} {w0 w w1 : World} (h : Fr3 a b c w w1) (hb : Below n w0 w) (hs : n ≤ w.heap.size) (ha : n ≤ a) (hb' : n ≤ b) (hc : n ≤ c) : Below n w0 w1 := hb.trans ⟨h.os, h.tape, h.output, h.size, fun i hi => h.block i (by omega) (by omega) (by omega) (by omega)⟩
theorem Fr3.new {a b c x : Nat} {w w1 : World} (h : Fr3 a b c w w1) (hx : w.heap.size ≤ x) (i : Nat) (v : Value) : Fr3 a b c w (w1.setCell ⟨x, i, none⟩ v) := ⟨h.os, h.tape, h.output, by have := h.size; simpa [World.setCell] using this, fun j hj h1 h2 h3 => (Below.heap_setCell w1 ⟨x, i, none⟩ v j (by show j ≠ x; omega)).trans (h.block j hj h1 h2 h3)⟩
theorem FlowW.far {w : World} {gf g B M x i : Nat} {v : Value} {q : List Int} {bad : Bool} (h : FlowW w gf g B M q bad) (h1 : gf ≠ x) (h2 : g ≠ x) (h3 : B ≠ x) : FlowW (w.setCell ⟨x, i, none⟩ v) gf g B M q bad := ⟨(Below.heap_setCell w ⟨x, i, none⟩ v gf h1).trans h.f, h.r.keep (Below.heap_setCell w ⟨x, i, none⟩ v g h2) (Below.heap_setCell w ⟨x, i, none⟩ v B h3)⟩
def nextOf (C : List Int → Int × Int × List Int × Int × Int) (q : List Int) (bad : Bool) : List Int × Bool := if (firstOf C q bad).2.2.2.2 = 2 then ([], true) else (q.drop (firstOf C q bad).2.2.2.1.toNat, bad)
def CutIs (C : List Int → Int × Int × List Int × Int × Int) (q : List Int) : Prop := ∀ (W : World) (A : Option Addr) (n c : Nat), n = (q.take 260).length → Kd.C (Kd.int .u8) W A n (q.take 260) → n ≤ c → Calls Try.prog 31 #[.slice A n c] W fun e w' => ∃ v : Value, e = .returned (.tuple #[.agg #[.int .i64 (C (q.take 260)).1, .int .i64 (C (q.take 260)).2.1, v], .int .i64 (C (q.take 260)).2.2.2.1, .int .i64 (C (q.take 260)).2.2.2.2]) ∧ Kd.R (Kd.int .u8) 5 w' W.heap.size (fun _ => True) v (C (q.take 260)).2.2.1 ∧ Below W.heap.size W w'
theorem flow_Ready (C : List Int → Int × Int × List Int × Int × Int) (w : World) (gf g B M : Nat) (q : List Int) (bad : Bool) (h : FlowW w gf g B M q bad) (hC : CutIs C q) :
    Calls Try.prog 43 #[.pointer (some ⟨gf, 0, none⟩)] w fun e w' => e = .returned (.bool (!((firstOf C q bad).2.2.2.2 == 3))) ∧ Below w.heap.size w w' := by
  have hu53 := Try.underlying53
  obtain ⟨t, u, p, n, e0, hf⟩ : ∃ t u p n e0, firstOf C q bad = (t, u, p, n, e0) := ⟨_, _, _, _, _, rfl⟩
  rw [hf]
  have HF := Lib.hid hf
  clear hf
  go_enter Try.func43, Try.ntmps43
  go_wp2_with (fail)
  refine (flow_first C w gf g B M q bad h hC t u p n e0 HF.out).mono ?_
  rintro e w1 ⟨A, c, rfl, hR, hb⟩
  go_wp2_with (fail)
  go_ret
  exact ⟨rfl, hb.alloc hb.size _⟩
theorem flow_Next (C : List Int → Int × Int × List Int × Int × Int) (w : World) (gf g B M : Nat) (q : List Int) (bad : Bool) (h : FlowW w gf g B M q bad) (hC : CutIs C q) (t u : Int) (p : List Int) (n e0 : Int) (hf : firstOf C q bad = (t, u, p, n, e0)) :
    Calls Try.prog 36 #[.pointer (some ⟨gf, 0, none⟩)] w fun e w' => ∃ A c, e = .returned (.tuple #[.agg #[.int .i64 t, .int .i64 u, .slice A p.length c], .int .i64 e0]) ∧ Kd.R (Kd.int .u8) 5 w' w.heap.size (fun _ => True) (.slice A p.length c) p ∧ FlowW w' gf g B M (nextOf C q bad).1 (nextOf C q bad).2 ∧ Fr3 gf g B w w' := by
  have hu89 := Try.underlying89
  have hu53 := Try.underlying53
  have hmf : ∀ (fn : Fn) (first cap : Array Value) (w : World), (Instr.makeFunc fn first cap).run Try.prog w = .ok (.func fn first cap) w := fun _ _ _ _ => rfl
  have H := Lib.hid h
  have H1 := Lib.hid hC
  have HF := Lib.hid hf
  clear h hC hf
  by_cases he : e0 = 2
  · subst he
    go_enter Try.func36, Try.ntmps36
    go_wp2_with (fail)
    refine (flow_first C _ gf g B M q bad (H.out.below ((Below.refl _ _).alloc (Nat.le_refl _) _)) H1.out t u p n 2 HF.out).mono ?_
    rintro e w1 ⟨A, c, rfl, hR, hb⟩
    have B0 := Lib.hid (blk_below (blk_new w (.cells #[.int .i64 0, .int .i64 0, .slice none 0 0] 53 (0, 0))) hb)
    have B1 := Lib.hid ((H.out.below ((Below.refl _ _).alloc (Nat.le_refl _) _)).below hb)
    have B2 := Lib.hid (((Below.refl w.heap.size w).alloc (Nat.le_refl _) _).trans (hb.mono (show w.heap.size ≤ _ by simp)))
    have B3 := Lib.hid hR
    have hwl : w.heap.size < w1.heap.size := by have := hb.size; simp at this; omega
    have HWL := Lib.hid hwl
    clear hR hb hwl
    have B4 := Lib.hid (blk_alloc B0.out (.cells #[.int .i64 t, .int .i64 u, .slice A p.length c] 53))
    have B5 := Lib.hid (B1.out.below ((Below.refl _ _).alloc (Nat.le_refl _) (.cells #[.int .i64 t, .int .i64 u, .slice A p.length c] 53)))
    have B6 := Lib.hid (blk_new w1 (.cells #[.int .i64 t, .int .i64 u, .slice A p.length c] 53 (0, 0)))
    have B7 := Lib.hid (Kd.R_alloc B3.out (.cells #[.int .i64 t, .int .i64 u, .slice A p.length c] 53))
    obtain ⟨c0_, c1⟩ := blkc2 B5.out.f
    obtain ⟨f0_, f1⟩ := blkf2 B5.out.f
    have WS := Lib.hid (show w.heap.size < (w.alloc (.cells #[.int .i64 0, .int .i64 0, .slice none 0 0] 53)).heap.size by simp)
    have WS2 := Lib.hid (show w.heap.size ≤ (w.alloc (.cells #[.int .i64 0, .int .i64 0, .slice none 0 0] 53)).heap.size by simp)
    have NX := Lib.hid (show nextOf C q bad = ([], true) by unfold nextOf; rw [HF.out]; rfl)
    go_wp2_with (fail)
    refine (len_b _ g B M q B5.out.r).mono ?_
    rintro e w3 ⟨rfl, hb⟩
    have C0 := Lib.hid (blk_below B4.out hb)
    have C1 := Lib.hid (B5.out.below hb)
    have C2 := Lib.hid (blk_below B6.out hb)
    have C3 := Lib.hid (Kd.R_below B7.out hb)
    have C4 := Lib.hid (below_then (B2.out.alloc B2.out.size (.cells #[.int .i64 t, .int .i64 u, .slice A p.length c] 53)) (by have := HWL.out; simp; omega) hb)
    clear B4 B5 B6 B7 hb c0_ c1 f0_ f1
    obtain ⟨c0_, c1⟩ := blkc2 C1.out.f
    obtain ⟨f0_, f1⟩ := blkf2 C1.out.f
    have hlt := H.out.r.lt
    have hfl := blk_lt H.out.f
    have hne := H.out.ne
    have D0 := blk_far C0.out (show w.heap.size ≠ (⟨gf, 1, none⟩ : Addr).block by show w.heap.size ≠ gf; omega) (.bool true)
    have D1 := blk_put C1.out.f 1 (.bool true) rfl
    have D2 := blk_far C2.out (show w1.heap.size ≠ (⟨gf, 1, none⟩ : Addr).block by show w1.heap.size ≠ gf; have := HWL.out; omega) (.bool true)
    have D3 := Kd.R_far (Kd.R_bound C3.out) (p := ⟨gf, 1, none⟩) (fun k_ h_ => by have := h_.2.1; have := WS.out; show k_ ≠ gf; omega) (.bool true)
    have D4 : RingW (w3.setCell ⟨gf, 1, none⟩ (.bool true)) g B M q := C1.out.r.keep (Below.heap_setCell w3 ⟨gf, 1, none⟩ _ g (fun e => hne.1 e.symm)) (Below.heap_setCell w3 ⟨gf, 1, none⟩ _ B (fun e => hne.2 e.symm))
    have E0 := Lib.hid D0
    have E1 := Lib.hid D1
    have E2 := Lib.hid D2
    have E3 := Lib.hid D3
    have E4 := Lib.hid D4
    clear D0 D1 D2 D3 D4
    go_wp2_with (fail)
    refine (ring_Take _ g B M q E4.out (q.length : Int) q.length (by rw [Int.toNat_natCast, List.take_length])).mono ?_
    rintro e w4 ⟨At, ct, rfl, _, hr2, hf2⟩
    rw [Int.toNat_natCast, List.drop_length] at hr2
    have K1 := Lib.hid ((hf2.block w.heap.size (blk_lt E0.out) (by omega) (by omega)).trans E0.out)
    have K2 := Lib.hid ((hf2.block w1.heap.size (blk_lt E2.out) (by have := HWL.out; omega) (by have := HWL.out; omega)).trans E2.out)
    have K3 := Lib.hid ((show FlowW w4 gf g B M [] true from ⟨(hf2.block gf (blk_lt E1.out) hne.1 hne.2).trans E1.out, hr2⟩))
    have K4 := Lib.hid (Kd.R_step (Kd.R_bound E3.out) (fun k hk hl => hf2.block k hl (by have := hk.2.1; have := HWL.out; have := WS.out; omega) (by have := hk.2.1; have := HWL.out; have := WS.out; omega)))
    have K5 := Lib.hid ((show Fr3 gf g B w w4 from ((Fr3.of_below C4.out).trans (Fr3.set w3 1 (.bool true))).trans (Fr3.of_fr2 hf2)))
    obtain ⟨x0, x1, x2⟩ := blkc3 K1.out
    obtain ⟨y0, y1, y2⟩ := blkf3 K1.out
    obtain ⟨z0, z1, z2⟩ := blkc3 K2.out
    clear hr2 hf2
    go_wp2_with (fail)
    have hW := res3 (a := .int .i64 t) (b := .int .i64 u) (c := .slice A p.length c) K1.out
    have hr0 := (blk_cell hW 0).trans rfl
    have hr1 := (blk_cell hW 1).trans rfl
    have hr2 := (blk_cell hW 2).trans rfl
    have hR2 := Kd.R_far (Kd.R_far (Kd.R_far (Kd.R_mono K4.out (fun k_ h_ => And.intro h_.1 (show k_ ≠ w.heap.size by have := h_.2.1; have := WS.out; omega))) (p := ⟨w.heap.size, 0, none⟩) (fun k_ h_ => h_.2) (.int .i64 t)) (p := ⟨w.heap.size, 1, none⟩) (fun k_ h_ => h_.2) (.int .i64 u)) (p := ⟨w.heap.size, 2, none⟩) (fun k_ h_ => h_.2) (.slice A p.length c)
    have hfin : Fr3 gf g B w (((w4.setCell ⟨w.heap.size, 0, none⟩ (.int .i64 t)).setCell ⟨w.heap.size, 1, none⟩ (.int .i64 u)).setCell ⟨w.heap.size, 2, none⟩ (.slice A p.length c)) := ((K5.out.new (Nat.le_refl _) 0 (.int .i64 t)).new (Nat.le_refl _) 1 (.int .i64 u)).new (Nat.le_refl _) 2 (.slice A p.length c)
    have hfl2 := ((K3.out.far (i := 0) (v := .int .i64 t) (x := w.heap.size) (by omega) (by omega) (by omega)).far (i := 1) (v := .int .i64 u) (x := w.heap.size) (by omega) (by omega) (by omega)).far (i := 2) (v := .slice A p.length c) (x := w.heap.size) (by omega) (by omega) (by omega)
    exact bodyPost_ret (v := .tuple #[.agg #[.int .i64 t, .int .i64 u, .slice A p.length c], .int .i64 2]) (by simp [results, Try.results36, go_sem, hr0, hr1, hr2]) rfl ⟨A, c, rfl, Kd.R_mono (Kd.R_lower hR2 WS2.out) (fun _ _ => trivial), by rw [NX.out]; exact hfl2, hfin⟩
  · have hd : (e0 == 2) = false := beq_eq_false_iff_ne.2 he
    go_enter Try.func36, Try.ntmps36
    go_wp2_with (fail)
    refine (flow_first C _ gf g B M q bad (H.out.below ((Below.refl _ _).alloc (Nat.le_refl _) _)) H1.out t u p n e0 HF.out).mono ?_
    rintro e w1 ⟨A, c, rfl, hR, hb⟩
    have B0 := Lib.hid (blk_below (blk_new w (.cells #[.int .i64 0, .int .i64 0, .slice none 0 0] 53 (0, 0))) hb)
    have B1 := Lib.hid ((H.out.below ((Below.refl _ _).alloc (Nat.le_refl _) _)).below hb)
    have B2 := Lib.hid (((Below.refl w.heap.size w).alloc (Nat.le_refl _) _).trans (hb.mono (show w.heap.size ≤ _ by simp)))
    have B3 := Lib.hid hR
    have hwl : w.heap.size < w1.heap.size := by have := hb.size; simp at this; omega
    have HWL := Lib.hid hwl
    clear hR hb hwl
    have B4 := Lib.hid (blk_alloc B0.out (.cells #[.int .i64 t, .int .i64 u, .slice A p.length c] 53))
    have B5 := Lib.hid (B1.out.below ((Below.refl _ _).alloc (Nat.le_refl _) (.cells #[.int .i64 t, .int .i64 u, .slice A p.length c] 53)))
    have B6 := Lib.hid (blk_new w1 (.cells #[.int .i64 t, .int .i64 u, .slice A p.length c] 53 (0, 0)))
    have B7 := Lib.hid (Kd.R_alloc B3.out (.cells #[.int .i64 t, .int .i64 u, .slice A p.length c] 53))
    obtain ⟨c0_, c1⟩ := blkc2 B5.out.f
    obtain ⟨f0_, f1⟩ := blkf2 B5.out.f
    have WS := Lib.hid (show w.heap.size < (w.alloc (.cells #[.int .i64 0, .int .i64 0, .slice none 0 0] 53)).heap.size by simp)
    have WS2 := Lib.hid (show w.heap.size ≤ (w.alloc (.cells #[.int .i64 0, .int .i64 0, .slice none 0 0] 53)).heap.size by simp)
    have NX := Lib.hid (show nextOf C q bad = (q.drop n.toNat, bad) by unfold nextOf; rw [HF.out]; exact if_neg he)
    have hlt := H.out.r.lt
    have hfl := blk_lt H.out.f
    have hne := H.out.ne
    have C4 := Lib.hid (B2.out.alloc B2.out.size (.cells #[.int .i64 t, .int .i64 u, .slice A p.length c] 53))
    go_wp2_with (fail)
    refine (ring_Take _ g B M q B5.out.r n _ rfl).mono ?_
    rintro e w4 ⟨At, ct, rfl, _, hr2, hf2⟩
    have K1 := Lib.hid ((hf2.block w.heap.size (blk_lt B4.out) (by omega) (by omega)).trans B4.out)
    have K2 := Lib.hid ((hf2.block w1.heap.size (blk_lt B6.out) (by have := HWL.out; omega) (by have := HWL.out; omega)).trans B6.out)
    have K3 := Lib.hid (B5.out.fr hr2 hf2)
    have K4 := Lib.hid (Kd.R_step (Kd.R_bound B7.out) (fun k hk hl => hf2.block k hl (by have := hk.2.1; have := HWL.out; have := WS.out; omega) (by have := hk.2.1; have := HWL.out; have := WS.out; omega)))
    have K5 := Lib.hid ((show Fr3 gf g B w w4 from (Fr3.of_below C4.out).trans (Fr3.of_fr2 hf2)))
    obtain ⟨x0, x1, x2⟩ := blkc3 K1.out
    obtain ⟨y0, y1, y2⟩ := blkf3 K1.out
    obtain ⟨z0, z1, z2⟩ := blkc3 K2.out
    clear hr2 hf2
    go_wp2_with (fail)
    have hW := res3 (a := .int .i64 t) (b := .int .i64 u) (c := .slice A p.length c) K1.out
    have hr0 := (blk_cell hW 0).trans rfl
    have hr1 := (blk_cell hW 1).trans rfl
    have hr2 := (blk_cell hW 2).trans rfl
    have hR2 := Kd.R_far (Kd.R_far (Kd.R_far (Kd.R_mono K4.out (fun k_ h_ => And.intro h_.1 (show k_ ≠ w.heap.size by have := h_.2.1; have := WS.out; omega))) (p := ⟨w.heap.size, 0, none⟩) (fun k_ h_ => h_.2) (.int .i64 t)) (p := ⟨w.heap.size, 1, none⟩) (fun k_ h_ => h_.2) (.int .i64 u)) (p := ⟨w.heap.size, 2, none⟩) (fun k_ h_ => h_.2) (.slice A p.length c)
    have hfin : Fr3 gf g B w (((w4.setCell ⟨w.heap.size, 0, none⟩ (.int .i64 t)).setCell ⟨w.heap.size, 1, none⟩ (.int .i64 u)).setCell ⟨w.heap.size, 2, none⟩ (.slice A p.length c)) := ((K5.out.new (Nat.le_refl _) 0 (.int .i64 t)).new (Nat.le_refl _) 1 (.int .i64 u)).new (Nat.le_refl _) 2 (.slice A p.length c)
    have hfl2 := ((K3.out.far (i := 0) (v := .int .i64 t) (x := w.heap.size) (by omega) (by omega) (by omega)).far (i := 1) (v := .int .i64 u) (x := w.heap.size) (by omega) (by omega) (by omega)).far (i := 2) (v := .slice A p.length c) (x := w.heap.size) (by omega) (by omega) (by omega)
    exact bodyPost_ret (v := .tuple #[.agg #[.int .i64 t, .int .i64 u, .slice A p.length c], .int .i64 e0]) (by simp [results, Try.results36, go_sem, hr0, hr1, hr2]) rfl ⟨A, c, rfl, Kd.R_mono (Kd.R_lower hR2 WS2.out) (fun _ _ => trivial), by rw [NX.out]; exact hfl2, hfin⟩
end Go.Proofs.Ytakiojmjalbfpaa.Ring
set_option linter.unusedVariables false
set_option linter.unusedSimpArgs false
namespace Go.Proofs.Ytakiojmjalbfpaa.Ring
open Go.RowKit Go.Proofs.YtakiojmjalbfpaaW.PrintWords Go.Proofs.YtakiojmjalbfpaaW.PrintLast Go.Proofs.YtakiojmjalbfpaaW.PrintMore Go.Proofs.Ytakiojmjalbfpaa.PFlow Go.Proofs.Ytakiojmjalbfpaa.Num Go.Proofs.Ytakiojmjalbfpaa.LemHeadFlow Go.Proofs.Ytakiojmjalbfpaa.LemAduFlow
attribute [local go_sem] plus_setCell_drewN plus_cell_same
theorem cut_is (q : List Int) (hb : B8 q) : CutIs cutl q := by
  intro W A n c hn hC hc
  subst hn
  exact adu_Cut.calls 10 A c (q.take 260) _ _ _ _ _ W hC hc (cut_eq (q.take 260) (by rw [List.length_take]; omega) (fun x hx => hb x (List.mem_of_mem_take hx)) (by omega))
structure FSt (w0 : World) (gf g B M : Nat) (q : List Int) (bad : Bool) (w : World) : Prop where
  f : FlowW w gf g B M q bad
  b : Below w0.heap.size w0 w
  g0 : w0.heap.size ≤ gf
  g1 : w0.heap.size ≤ g
  g2 : w0.heap.size ≤ B
  b8 : B8 q
theorem FSt.below {w0 w w1 : World} {gf g B M : Nat} {q : List Int} {bad : Bool} (h : FSt w0 gf g B M q bad w) (hb : Below w.heap.size w w1) : FSt w0 gf g B M q bad w1 := ⟨h.f.below hb, below_then h.b h.b.size hb, h.g0, h.g1, h.g2, h.b8⟩
theorem FSt.fed {w0 w w1 : World} {gf g B M : Nat} {q q1 : List Int} {bad : Bool} (h : FSt w0 gf g B M q bad w) (hf : FlowW w1 gf g B M q1 bad) (hr : Fr2 g B w w1) (h8 : B8 q1) : FSt w0 gf g B M q1 bad w1 := ⟨hf, hr.below h.b h.b.size h.g1 h.g2, h.g0, h.g1, h.g2, h8⟩
theorem FSt.next {w0 w w1 : World} {gf g B M : Nat} {q q1 : List Int} {bad b1 : Bool} (h : FSt w0 gf g B M q bad w) (hf : FlowW w1 gf g B M q1 b1) (hr : Fr3 gf g B w w1) (h8 : B8 q1) : FSt w0 gf g B M q1 b1 w1 := ⟨hf, hr.below h.b h.b.size h.g0 h.g1 h.g2, h.g0, h.g1, h.g2, h8⟩
theorem feed_b (w : World) (gf g B M : Nat) (q : List Int) (bad : Bool) (h : FlowW w gf g B M q bad) (g1 n : Nat) (l : List Int) (hn : n = l.length) (hc : w.heap[g1]? = some (.cells (bv l) 5 (0, 0))) (hl : n ≤ 100000) (hne : g1 ≠ B) (m : Nat) (hm : m = if bad then 0 else min n (M - q.length)) :
    Calls Try.prog 35 #[.pointer (some ⟨gf, 0, none⟩), .slice (some ⟨g1, 0, none⟩) n n] w fun e w' => e = .returned (.int .i64 (m : Int)) ∧ FlowW w' gf g B M (q ++ l.take m) bad ∧ Fr2 g B w w' := by
  refine flow_Feed w gf g B M q bad h _ n n l hn ?_ (Nat.le_refl _) (fun _ a ha => by injection ha with ha; subst ha; exact hne) m hm
  have := C_bytes hc 0 n (by omega) (by omega)
  rwa [List.drop_zero, hn, List.take_length, ← hn] at this
set_option maxRecDepth 100000 in
theorem law10_awake (w : World) : Calls Try.prog 32 #[] w fun e w' => e = .returned (.bool true) ∧ Below w.heap.size w w' := by
  have hu53 := Try.underlying53
  have hu30 := Try.underlying30
  have k1 : firstOf cutl [0, 1, 0, 0] false = (0, 0, [], 0, 3) := by decide
  have k2 : firstOf cutl [0, 1, 0, 0, 0, 2, 9, 7] false = (1, 9, [7], 8, 0) := by decide
  have K1 := Lib.hid k1
  have K2 := Lib.hid k2
  clear k1 k2
  go_enter Try.func32, Try.ntmps32
  go_wp2_with (fail)
  refine (flow_New 300 300 rfl _).mono ?_
  rintro e w1 ⟨gf, g, B, rfl, hf, h1, h2, h3, hb⟩
  have S1 := Lib.hid (show FSt w gf g B 300 [] false w1 from ⟨hf, hb, h1, h2, h3, fun x hx => by cases hx⟩)
  clear hf h1 h2 h3 hb
  go_wp2_with (fail)
  refine (feed_b _ gf g B 300 [] false (S1.out.f.below ((Below.refl _ _).alloc (Nat.le_refl _) _)) w1.heap.size 4 [0, 1, 0, 0] rfl (blk_new w1 (.cells (bv [0, 1, 0, 0]) 5 (0, 0))) (by omega) (by have := S1.out.f.r.lt; omega) 4 rfl).mono ?_
  rintro e w2 ⟨rfl, hf, hr⟩
  have S2 := Lib.hid ((S1.out.below ((Below.refl _ _).alloc (Nat.le_refl _) _)).fed hf hr (by intro x hx; simp at hx; omega))
  clear S1 hf hr
  go_wp2_with (fail)
  refine (flow_Next cutl _ gf g B 300 _ false S2.out.f (cut_is _ S2.out.b8) 0 0 [] 0 3 K1.out).mono ?_
  rintro e w3 ⟨A, c, rfl, hR, hf, hr⟩
  rw [show nextOf cutl ([] ++ [0, 1, 0, 0].take 4) false = ([0, 1, 0, 0], false) from by decide] at hf
  have S3 := Lib.hid (S2.out.next hf hr (by intro x hx; simp at hx; omega))
  clear S2 hf hr hR
  go_wp2_with (fail)
  have hb3 : Below w3.heap.size w3 ((w3.alloc (.cells #[.int .i64 0, .int .i64 0, .slice A 0 c] 53)).alloc (.cells #[.int .u8 0, .int .u8 2, .int .u8 9, .int .u8 7] 5)) := ((Below.refl _ _).alloc (Nat.le_refl _) _).alloc (by simp) _
  refine (feed_b _ gf g B 300 [0, 1, 0, 0] false (S3.out.f.below hb3) (w3.heap.size + 1) 4 [0, 2, 9, 7] rfl (by have := blk_new (w3.alloc (.cells #[.int .i64 0, .int .i64 0, .slice A 0 c] 53)) (.cells #[.int .u8 0, .int .u8 2, .int .u8 9, .int .u8 7] 5 (0, 0)); rwa [show (w3.alloc (.cells #[.int .i64 0, .int .i64 0, .slice A 0 c] 53)).heap.size = w3.heap.size + 1 by simp] at this) (by omega) (by have := S3.out.f.r.lt; omega) 4 rfl).mono ?_
  rintro e w4 ⟨rfl, hf, hr⟩
  have S4 := Lib.hid ((S3.out.below hb3).fed hf hr (by intro x hx; simp at hx; omega))
  clear S3 hf hr hb3
  go_wp2_with (fail)
  refine (flow_Next cutl _ gf g B 300 _ false S4.out.f (cut_is _ S4.out.b8) 1 9 [7] 8 0 K2.out).mono ?_
  rintro e w5 ⟨A5, c5, rfl, hR, hf, hr⟩
  rw [show nextOf cutl ([0, 1, 0, 0] ++ [0, 2, 9, 7].take 4) false = ([], false) from by decide] at hf
  have S5 := Lib.hid (S4.out.next hf hr (by intro x hx; cases hx))
  have hs : ∀ (o : Obj), (convert 30 9 (.slice A5 1 c5)).run Try.prog (w5.alloc o) = .ok (.string (strOfNums [7])) (w5.alloc o) := fun o => Kd.C_string (P := Try.prog) Try.underlying30 Try.underlying5 Try.underlying9 (A := A5) (c := c5) (Kd.C_alloc (Kd.R_reads' hR).2.2 o)
  have hq : (strOfNums [7]).toList = [7] := by decide +kernel
  clear S4 hf hr hR
  go_wp2_with (fail)
  refine (flow_Held _ gf g B 300 [] false (S5.out.f.below ((Below.refl _ _).alloc (Nat.le_refl _) _))).mono ?_
  rintro e w6 ⟨rfl, hb⟩
  go_wp2
  go_ret
  exact ⟨rfl, below_then (S5.out.b.alloc S5.out.b.size _) (by have := S5.out.b.size; simp; omega) hb⟩
end Go.Proofs.Ytakiojmjalbfpaa.Ring
namespace Go.Proofs.Ytakiojmjalbfpaa.PFlow
open Go.RowKit Go.Proofs.YtakiojmjalbfpaaW.PrintWords Go.Proofs.YtakiojmjalbfpaaW.PrintLast Go.Proofs.YtakiojmjalbfpaaW.PrintMore
attribute [local go_sem] max2_int min2_int max_two min_two max_three min_three max_four min_four plus_setCell_drewN plus_cell_same   -- for this text's walks alone
set_option linter.unusedVariables false
set_option linter.unusedSimpArgs false
def busbarlaw0_Frame.f (k : Nat) (a0_0 : Int) (a0_1 : Int) (a0_2 : Int) (a0_3 : Int) (a0_4 : Int) (a0_5 : Int) (l0_6 : List Bool) (l0_7 : List Int) (a0_8 : Int) (a0_9 : Int) (a0_10 : Int) (a0_11 : Int) (a1 : Int) (a2 : Int) : Option (List Int) := (busbarref5_AskBytes.f k a0_0 a0_1 a0_2 a0_3 a0_4 a0_5 l0_6 l0_7 a0_8 a0_9 a0_10 a0_11).bind fun bt339 => ((busbarlaw0_Within.f a1 65536).bind fun t343 => ((busbarlaw0_Within.f a2 256).bind fun t344 => ((busbarref5_FrameBytes.f k t343 t344 bt339.1).bind fun bt345 => (some bt345.1))))
theorem busbarlaw0_Frame.mono : ∀ a0 a1 a2 a3 a4 a5 a6 a7 a8 a9 a10 a11 a12 a13 k, LeO (busbarlaw0_Frame.f k a0 a1 a2 a3 a4 a5 a6 a7 a8 a9 a10 a11 a12 a13) (busbarlaw0_Frame.f (k + 1) a0 a1 a2 a3 a4 a5 a6 a7 a8 a9 a10 a11 a12 a13) := by
 intro a0 a1 a2 a3 a4 a5 a6 a7 a8 a9 a10 a11 a12 a13 k
 unfold busbarlaw0_Frame.f
 repeat' first
   | (with_reducible exact busbarref5_AskBytes.mono _ _ _ _ _ _ _ _ _ _ _ _ _)
   | (with_reducible exact busbarref5_FrameBytes.mono _ _ _ _)
   | (with_reducible exact LeO.refl _)
   | (with_reducible exact LeO.none _)
   | (with_reducible refine LeO.ite ?_ ?_)
   | (with_reducible refine LeO.bind ?_ (fun _ => ?_))
   | exact busbarref5_AskBytes.mono _ _ _ _ _ _ _ _ _ _ _ _ _
   | exact busbarref5_FrameBytes.mono _ _ _ _
   | exact LeO.none _
   | refine LeO.ite ?_ ?_
   | refine LeO.bind ?_ (fun _ => ?_)
set_option maxHeartbeats 8000000 in
set_option maxRecDepth 100000 in
theorem busbarlaw0_Frame.calls (k : Nat) (a0_0 : Int) (a0_1 : Int) (a0_2 : Int) (a0_3 : Int) (a0_4 : Int) (a0_5 : Int) (A0_6 : Option Addr) (c0_6 : Nat) (l0_6 : List Bool) (A0_7 : Option Addr) (c0_7 : Nat) (l0_7 : List Int) (a0_8 : Int) (a0_9 : Int) (a0_10 : Int) (a0_11 : Int) (a1 : Int) (a2 : Int) (r : List Int) (w : World) (hr0_6 : Kd.C Kd.bool w A0_6 l0_6.length l0_6) (hc0_6 : l0_6.length ≤ c0_6) (hr0_7 : Kd.C (Kd.int .u16) w A0_7 l0_7.length l0_7) (hc0_7 : l0_7.length ≤ c0_7) (h : busbarlaw0_Frame.f k a0_0 a0_1 a0_2 a0_3 a0_4 a0_5 l0_6 l0_7 a0_8 a0_9 a0_10 a0_11 a1 a2 = some r) :
  Calls Try.prog 56 #[.agg #[.int .i64 a0_0, .int .i64 a0_1, .int .i64 a0_2, .int .u16 a0_3, .int .u16 a0_4, .int .u16 a0_5, .slice A0_6 l0_6.length c0_6, .slice A0_7 l0_7.length c0_7, .int .i64 a0_8, .int .i64 a0_9, .int .i64 a0_10, .int .i64 a0_11], .int .i64 a1, .int .i64 a2] w fun e w' => ∃ v0_ : Value, e = .returned (v0_) ∧ Kd.R (Kd.int .u8) 5 w' w.heap.size (fun _ => True) v0_ r ∧ Below w.heap.size w w' := by
 have hu49 := Try.underlying49
 have hu60 := Try.underlying60
 have HR0_6 := Aside0.mk hr0_6
 have HC0_6 := Aside0.mk hc0_6
 clear hr0_6 hc0_6
 have HR0_7 := Aside0.mk hr0_7
 have HC0_7 := Aside0.mk hc0_7
 clear hr0_7 hc0_7
 have HB := Aside0.mk (Below.refl w.heap.size w)
 have H : ((busbarref5_AskBytes.f k a0_0 a0_1 a0_2 a0_3 a0_4 a0_5 l0_6 l0_7 a0_8 a0_9 a0_10 a0_11).bind fun bt339 => ((busbarlaw0_Within.f a1 65536).bind fun t343 => ((busbarlaw0_Within.f a2 256).bind fun t344 => ((busbarref5_FrameBytes.f k t343 t344 bt339.1).bind fun bt345 => (some bt345.1))))) = some r := h
 clear h
 replace H := Option.bind_eq_some_iff.mp H
 obtain ⟨⟨t339, t342⟩, A40, H⟩ := H
 replace H : ((busbarlaw0_Within.f a1 65536).bind fun t343 => ((busbarlaw0_Within.f a2 256).bind fun t344 => ((busbarref5_FrameBytes.f k t343 t344 t339).bind fun bt345 => (some bt345.1)))) = some r := H
 have A4 := Aside0.mk A40
 clear A40
 replace H := Option.bind_eq_some_iff.mp H
 obtain ⟨t343, A50, H⟩ := H
 replace H : ((busbarlaw0_Within.f a2 256).bind fun t344 => ((busbarref5_FrameBytes.f k t343 t344 t339).bind fun bt345 => (some bt345.1))) = some r := H
 have A5 := Aside0.mk A50
 clear A50
 replace H := Option.bind_eq_some_iff.mp H
 obtain ⟨t344, A60, H⟩ := H
 replace H : ((busbarref5_FrameBytes.f k t343 t344 t339).bind fun bt345 => (some bt345.1)) = some r := H
 have A6 := Aside0.mk A60
 clear A60
 replace H := Option.bind_eq_some_iff.mp H
 obtain ⟨⟨t345, t348⟩, A70, H⟩ := H
 replace H : (some t345) = some r := H
 have A7 := Aside0.mk A70
 clear A70
 obtain rfl := Option.some.inj H
 go_enter Try.func56, Try.ntmps56
 go_wp2_with (first | ((with_reducible refine gate_dst (N := 3) rfl ?_); refine box_event ?hg (N := 3) ?hd (cs := #[.int .i64 a0_0, .int .i64 a0_1, .int .i64 a0_2, .int .u16 a0_3, .int .u16 a0_4, .int .u16 a0_5, .slice A0_6 l0_6.length c0_6, .slice A0_7 l0_7.length c0_7, .int .i64 a0_8, .int .i64 a0_9, .int .i64 a0_10, .int .i64 a0_11]) (t := 49) ?hr ?_; (case hd => rfl); (case hg => rfl); (case hr => first | (go_simp; done) | (go_simp; rfl)); intro gb338 hg w8 hbox hb; have n0_ := Aside0.mk (below_step (by repeat (first | (with_reducible first | exact HB.out | apply below_alloc | apply pw_below_drewN | apply below_drew1) | exact HB.out)) hb); have n1_ := Aside0.mk (hbox); have n2_ := Aside0.mk ((by rw [hg]; exact (below_size (by repeat (first | (with_reducible first | exact HB.out | apply below_alloc | apply pw_below_drewN | apply below_drew1) | exact HB.out))) : w.heap.size ≤ gb338)); have n3_ := Aside0.mk ((by rw [hg]; exact (below_size (by repeat (first | (with_reducible first | exact HB.out | apply below_alloc | apply pw_below_drewN | apply below_drew1) | exact HB.out))) : w.heap.size ≤ gb338)); clear HB; have HB := n0_; have BK338 := n1_; have GW338 := n2_; have GE338 := n3_; clear n0_ n1_ n2_ n3_; clear hb hbox hg; have hcz9_0 : w8.cell? ⟨gb338, 0, none⟩ = some (.int .i64 a0_0) := (blk_cell BK338.out 0).trans rfl; have hcz9_1 : w8.cell? ⟨gb338, 1, none⟩ = some (.int .i64 a0_1) := (blk_cell BK338.out 1).trans rfl; have hcz9_2 : w8.cell? ⟨gb338, 2, none⟩ = some (.int .i64 a0_2) := (blk_cell BK338.out 2).trans rfl; have hcz9_3 : w8.cell? ⟨gb338, 3, none⟩ = some (.int .u16 a0_3) := (blk_cell BK338.out 3).trans rfl; have hcz9_4 : w8.cell? ⟨gb338, 4, none⟩ = some (.int .u16 a0_4) := (blk_cell BK338.out 4).trans rfl; have hcz9_5 : w8.cell? ⟨gb338, 5, none⟩ = some (.int .u16 a0_5) := (blk_cell BK338.out 5).trans rfl; have hcz9_6 : w8.cell? ⟨gb338, 6, none⟩ = some (.slice A0_6 l0_6.length c0_6) := (blk_cell BK338.out 6).trans rfl; have hcz9_7 : w8.cell? ⟨gb338, 7, none⟩ = some (.slice A0_7 l0_7.length c0_7) := (blk_cell BK338.out 7).trans rfl; have hcz9_8 : w8.cell? ⟨gb338, 8, none⟩ = some (.int .i64 a0_8) := (blk_cell BK338.out 8).trans rfl; have hcz9_9 : w8.cell? ⟨gb338, 9, none⟩ = some (.int .i64 a0_9) := (blk_cell BK338.out 9).trans rfl; have hcz9_10 : w8.cell? ⟨gb338, 10, none⟩ = some (.int .i64 a0_10) := (blk_cell BK338.out 10).trans rfl; have hcz9_11 : w8.cell? ⟨gb338, 11, none⟩ = some (.int .i64 a0_11) := (blk_cell BK338.out 11).trans rfl; have hfz9_0 := blk_frozen BK338.out 0; have hfz9_1 := blk_frozen BK338.out 1; have hfz9_2 := blk_frozen BK338.out 2; have hfz9_3 := blk_frozen BK338.out 3; have hfz9_4 := blk_frozen BK338.out 4; have hfz9_5 := blk_frozen BK338.out 5; have hfz9_6 := blk_frozen BK338.out 6; have hfz9_7 := blk_frozen BK338.out 7; have hfz9_8 := blk_frozen BK338.out 8; have hfz9_9 := blk_frozen BK338.out 9; have hfz9_10 := blk_frozen BK338.out 10; have hfz9_11 := blk_frozen BK338.out 11) | ((with_reducible refine gate_callee (f := 28) rfl ?_); refine goesL_ (some 13) rfl rfl Try.func28 (by kernel_rfl) rfl #[.agg #[.int .i64 a0_0, .int .i64 a0_1, .int .i64 a0_2, .int .u16 a0_3, .int .u16 a0_4, .int .u16 a0_5, .slice A0_6 l0_6.length c0_6, .slice A0_7 l0_7.length c0_7, .int .i64 a0_8, .int .i64 a0_9, .int .i64 a0_10, .int .i64 a0_11]] rfl (by (try simp only [List.map_toArray, List.map_cons, List.map_nil]); first | done | rfl | (simp only [List.length_drop, List.length_take]; rfl)) ?_; (with_reducible refine (busbarref5_AskBytes.calls k a0_0 a0_1 a0_2 a0_3 a0_4 a0_5 _ _ l0_6 _ _ l0_7 a0_8 a0_9 a0_10 a0_11 t339 t342 _ ?side1 ?side2 ?side3 ?side4 A4.out).mono ?_); (case side1 => repeat (first | exact (Kd.C_below HR0_6.out HB.out) | (with_reducible refine Kd.C_alloc ?_ _) | (with_reducible refine Kd.C_drewN ?_ _) | (with_reducible refine Kd.C_drew ?_))); (case side2 => exact HC0_6.out); (case side3 => repeat (first | exact (Kd.C_below HR0_7.out HB.out) | (with_reducible refine Kd.C_alloc ?_ _) | (with_reducible refine Kd.C_drewN ?_ _) | (with_reducible refine Kd.C_drew ?_))); (case side4 => exact HC0_7.out); rintro e w10 ⟨v340, rfl, ho0, hb⟩; refine ⟨_, rfl, ?_⟩; have n0_ := Aside0.mk (Kd.V_lower (Kd.V_mono (ok' := fun k_ => k_ ≠ gb338) ho0 (fun k_ hk_ => (Kd.freshB (g := gb338) (o := .cells #[.int .i64 a0_0, .int .i64 a0_1, .int .i64 a0_2, .int .u16 a0_3, .int .u16 a0_4, .int .u16 a0_5, .slice A0_6 l0_6.length c0_6, .slice A0_7 l0_7.length c0_7, .int .i64 a0_8, .int .i64 a0_9, .int .i64 a0_10, .int .i64 a0_11] 49 (0, 0)) (by (with_reducible repeat (first | refine blk_drewN ?_ _ | refine blk_drew ?_ | refine blk_alloc ?_ _)); exact BK338.out) k_ hk_))) (below_size (by repeat (first | (with_reducible first | exact HB.out | apply below_alloc | apply pw_below_drewN | apply below_drew1 | refine below_set ?_ GE338.out) | exact HB.out)))); have n1_ := Aside0.mk (blk_below (g := gb338) (o := .cells #[.int .i64 a0_0, .int .i64 a0_1, .int .i64 a0_2, .int .u16 a0_3, .int .u16 a0_4, .int .u16 a0_5, .slice A0_6 l0_6.length c0_6, .slice A0_7 l0_7.length c0_7, .int .i64 a0_8, .int .i64 a0_9, .int .i64 a0_10, .int .i64 a0_11] 49 (0, 0)) (by (with_reducible repeat (first | refine blk_drewN ?_ _ | refine blk_drew ?_ | refine blk_alloc ?_ _)); exact BK338.out) hb); have n2_ := Aside0.mk (below_step (by repeat (first | (with_reducible first | exact HB.out | apply below_alloc | apply pw_below_drewN | apply below_drew1 | refine below_set ?_ GE338.out) | exact HB.out)) hb); clear BK338; clear HB; have HO341 := n0_; have BK338 := n1_; have HB := n2_; clear n0_ n1_ n2_; (try clear hb); (try clear hb2); (try clear hk); (try clear hi); (try clear ho0)) | ((with_reducible refine gate_callee (f := 12) rfl ?_); refine goesL_ (some 18) rfl rfl Try.func12 (by kernel_rfl) rfl #[.int .i64 a1, .int .i64 65536] rfl (by (try simp only [List.map_toArray, List.map_cons, List.map_nil]); first | done | rfl | (simp only [List.length_drop, List.length_take]; rfl)) ?_; (with_reducible refine (busbarlaw0_Within.calls a1 65536 t343 _ A5.out).mono ?_); rintro e w' ⟨rfl, ⟨nd, rfl⟩⟩; refine ⟨_, rfl, ?_⟩) | ((with_reducible refine gate_callee (f := 12) rfl ?_); refine goesL_ (some 20) rfl rfl Try.func12 (by kernel_rfl) rfl #[.int .i64 a2, .int .i64 256] rfl (by (try simp only [List.map_toArray, List.map_cons, List.map_nil]); first | done | rfl | (simp only [List.length_drop, List.length_take]; rfl)) ?_; (with_reducible refine (busbarlaw0_Within.calls a2 256 t344 _ A6.out).mono ?_); rintro e w' ⟨rfl, ⟨nd, rfl⟩⟩; refine ⟨_, rfl, ?_⟩; obtain ⟨Ao11, co11, eo11⟩ := Kd.V_slice HO341.out; subst eo11) | ((with_reducible refine gate_callee (f := 34) rfl ?_); refine goesL_ (some 23) rfl rfl Try.func34 (by kernel_rfl) rfl #[.agg #[.int .i64 t343, .int .i64 t344, .slice Ao11 t339.length co11]] rfl (by (try simp only [List.map_toArray, List.map_cons, List.map_nil]); first | done | rfl | (simp only [List.length_drop, List.length_take]; rfl)) ?_; (with_reducible refine (busbarref5_FrameBytes.calls k t343 t344 _ _ t339 t345 t348 _ ?side1 ?side2 A7.out).mono ?_); (case side1 => repeat (first | exact (Kd.V_reads' HO341.out).2.2 | (with_reducible refine Kd.C_alloc ?_ _) | (with_reducible refine Kd.C_drewN ?_ _) | (with_reducible refine Kd.C_drew ?_))); (case side2 => exact (Kd.V_reads' HO341.out).2.1); rintro e w12 ⟨v346, rfl, ho0, hb⟩; refine ⟨_, rfl, ?_⟩; have n0_ := Aside0.mk (Kd.V_elder' (by (with_reducible repeat (first | apply Kd.V_alloc | apply Kd.V_drewN | apply Kd.V_drew)); exact HO341.out) (Kd.R_base ho0) hb); have n1_ := Aside0.mk (Kd.R_lower ho0 (below_size (by repeat (first | (with_reducible first | exact HB.out | apply below_alloc | apply pw_below_drewN | apply below_drew1 | refine below_set ?_ GE338.out) | exact HB.out)))); have n2_ := Aside0.mk (blk_below (g := gb338) (o := .cells #[.int .i64 a0_0, .int .i64 a0_1, .int .i64 a0_2, .int .u16 a0_3, .int .u16 a0_4, .int .u16 a0_5, .slice A0_6 l0_6.length c0_6, .slice A0_7 l0_7.length c0_7, .int .i64 a0_8, .int .i64 a0_9, .int .i64 a0_10, .int .i64 a0_11] 49 (0, 0)) (by (with_reducible repeat (first | refine blk_drewN ?_ _ | refine blk_drew ?_ | refine blk_alloc ?_ _)); exact BK338.out) hb); have n3_ := Aside0.mk (below_step (by repeat (first | (with_reducible first | exact HB.out | apply below_alloc | apply pw_below_drewN | apply below_drew1 | refine below_set ?_ GE338.out) | exact HB.out)) hb); clear HO341; clear BK338; clear HB; have HO341 := n0_; have HO347 := n1_; have BK338 := n2_; have HB := n3_; clear n0_ n1_ n2_ n3_; (try clear hb); (try clear hb2); (try clear hk); (try clear hi); (try clear ho0)))
 go_ret
 exact ⟨_, by first | rfl | (simp [errW_none, errW_some] <;> rfl) | (simp [*, errW_none, errW_some] <;> rfl), by (with_reducible repeat (first | apply Kd.R_alloc | apply Kd.R_drewN | apply Kd.R_drew)); exact HO347.out, by repeat (first | (with_reducible first | exact HB.out | apply below_alloc | apply pw_below_drewN | apply below_drew1 | refine below_set ?_ GE338.out) | exact HB.out)⟩
end Go.Proofs.Ytakiojmjalbfpaa.PFlow
namespace Go.Proofs.Ytakiojmjalbfpaa.PFlow
open Go.RowKit Go.Proofs.YtakiojmjalbfpaaW.PrintWords Go.Proofs.YtakiojmjalbfpaaW.PrintLast Go.Proofs.YtakiojmjalbfpaaW.PrintMore
attribute [local go_sem] max2_int min2_int max_two min_two max_three min_three max_four min_four plus_setCell_drewN plus_cell_same   -- for this text's walks alone
set_option linter.unusedVariables false
set_option linter.unusedSimpArgs false
mutual
def busbarlaw10_row.l0 : Nat → List Int → List Int → Int → Option (List Int)
 | 0, _, _, _ => none
 | k + 1, x0, x3, x4 => if x4 < (x0.length : Int) then (busbarlaw10_row.j1 k x0 x3 x4 (decide (x4 < 12))) else (busbarlaw10_row.j1 k x0 x3 x4 false)
def busbarlaw10_row.j1 : Nat → List Int → List Int → Int → Bool → Option (List Int)
 | 0, _, _, _, _ => none
 | k + 1, x0, x3, x4, x12 => if x12 = true then (if 0 ≤ x4 then (if x4 < (x0.length : Int) then ((busbarlaw0_Ask.f k (rd x0 x4) (rd x0 x4)).bind fun bt351 => ((busbarlaw0_Frame.f k bt351.1 bt351.2.1 bt351.2.2.1 bt351.2.2.2.1 bt351.2.2.2.2.1 bt351.2.2.2.2.2.1 bt351.2.2.2.2.2.2.1 bt351.2.2.2.2.2.2.2.1 bt351.2.2.2.2.2.2.2.2.1 bt351.2.2.2.2.2.2.2.2.2.1 bt351.2.2.2.2.2.2.2.2.2.2.1 bt351.2.2.2.2.2.2.2.2.2.2.2 x4 (rd x0 x4)).bind fun t368 => (if x3.length + t368.length < 140737488355328 then (busbarlaw10_row.l0 k x0 (x3 ++ t368) (wrap64 (x4 + 1))) else (none)))) else (none)) else (none)) else (some x3)
end
def busbarlaw10_row.f (k : Nat) (l0 : List Int) : Option (List Int) := busbarlaw10_row.l0 k l0 ([] : List Int) 0
theorem busbarlaw10_row.mono_l : ∀ k, (∀ y0 y1 y2, LeO (busbarlaw10_row.l0 k y0 y1 y2) (busbarlaw10_row.l0 (k + 1) y0 y1 y2)) ∧ (∀ y0 y1 y2 y3, LeO (busbarlaw10_row.j1 k y0 y1 y2 y3) (busbarlaw10_row.j1 (k + 1) y0 y1 y2 y3))
 | 0 => ⟨fun _ _ _ r h => by simp [busbarlaw10_row.l0] at h, fun _ _ _ _ r h => by simp [busbarlaw10_row.j1] at h⟩
 | k + 1 => by
  obtain ⟨ih0, ih1⟩ := busbarlaw10_row.mono_l k
  refine ⟨?_, ?_⟩
  ·
   intro y0 y1 y2
   unfold busbarlaw10_row.l0
   repeat' first
   | (with_reducible exact ih0 _ _ _)
   | (with_reducible exact ih1 _ _ _ _)
   | (with_reducible exact busbarlaw0_Ask.mono _ _ _)
   | (with_reducible exact busbarlaw0_Frame.mono _ _ _ _ _ _ _ _ _ _ _ _ _ _ _)
   | (with_reducible exact LeO.refl _)
   | (with_reducible exact LeO.none _)
   | (with_reducible refine LeO.ite ?_ ?_)
   | (with_reducible refine LeO.bind ?_ (fun _ => ?_))
   | exact ih0 _ _ _
   | exact ih1 _ _ _ _
   | exact busbarlaw0_Ask.mono _ _ _
   | exact busbarlaw0_Frame.mono _ _ _ _ _ _ _ _ _ _ _ _ _ _ _
   | exact LeO.none _
   | refine LeO.ite ?_ ?_
   | refine LeO.bind ?_ (fun _ => ?_)
  ·
   intro y0 y1 y2 y3
   unfold busbarlaw10_row.j1
   repeat' first
   | (with_reducible exact ih0 _ _ _)
   | (with_reducible exact ih1 _ _ _ _)
   | (with_reducible exact busbarlaw0_Ask.mono _ _ _)
   | (with_reducible exact busbarlaw0_Frame.mono _ _ _ _ _ _ _ _ _ _ _ _ _ _ _)
   | (with_reducible exact LeO.refl _)
   | (with_reducible exact LeO.none _)
   | (with_reducible refine LeO.ite ?_ ?_)
   | (with_reducible refine LeO.bind ?_ (fun _ => ?_))
   | exact ih0 _ _ _
   | exact ih1 _ _ _ _
   | exact busbarlaw0_Ask.mono _ _ _
   | exact busbarlaw0_Frame.mono _ _ _ _ _ _ _ _ _ _ _ _ _ _ _
   | exact LeO.none _
   | refine LeO.ite ?_ ?_
   | refine LeO.bind ?_ (fun _ => ?_)
theorem busbarlaw10_row.mono : ∀ a0 k, LeO (busbarlaw10_row.f k a0) (busbarlaw10_row.f (k + 1) a0) := by
 intro a0 k
 obtain ⟨ih0, ih1⟩ := busbarlaw10_row.mono_l k
 unfold busbarlaw10_row.f
 repeat' first
   | (with_reducible exact ih0 _ _ _)
   | (with_reducible exact ih1 _ _ _ _)
   | (with_reducible exact busbarlaw0_Ask.mono _ _ _)
   | (with_reducible exact busbarlaw0_Frame.mono _ _ _ _ _ _ _ _ _ _ _ _ _ _ _)
   | (with_reducible exact LeO.refl _)
   | (with_reducible exact LeO.none _)
   | (with_reducible refine LeO.ite ?_ ?_)
   | (with_reducible refine LeO.bind ?_ (fun _ => ?_))
   | exact ih0 _ _ _
   | exact ih1 _ _ _ _
   | exact busbarlaw0_Ask.mono _ _ _
   | exact busbarlaw0_Frame.mono _ _ _ _ _ _ _ _ _ _ _ _ _ _ _
   | exact LeO.none _
   | refine LeO.ite ?_ ?_
   | refine LeO.bind ?_ (fun _ => ?_)
def busbarlaw10_row.T5 : Bool × List (List Nat × List Nat) := (true, [([], []), ([], []), ([], []), ([1, 2], [1, 2]), ([3], [3]), ([], []), ([], []), ([5, 6], [5, 6]), ([7], [7]), ([4, 8], [4, 8]), ([], []), ([], []), ([], []), ([11, 12], [11, 12]), ([13], [13]), ([9, 10, 14, 9], [9, 10, 14]), ([0, 15, 15], [0, 15]), ([16, 16, 0, 1, 2, 3, 4, 5, 6, 7, 8, 9, 10, 11, 12, 13, 14, 15, 16], [0, 16])])
def busbarlaw10_row.B5 : List Nat := [0, 0, 0, 6, 14, 0, 0, 96, 224, 510, 0, 0, 0, 6144, 14336, 32766, 65535, 131071]
theorem busbarlaw10_row.tab5 : rtab .any (opsOf Try.f39 5) = busbarlaw10_row.T5 := by kernel_rfl
theorem busbarlaw10_row.bits5 : waitsOk busbarlaw10_row.T5.2 busbarlaw10_row.B5 = true := by kernel_rfl
set_option maxHeartbeats 8000000 in
set_option maxRecDepth 100000 in
theorem busbarlaw10_row.calls (k : Nat) (A0 : Option Addr) (c0 : Nat) (l0 : List Int) (r : List Int) (w : World) (hr0 : Kd.C (Kd.int .i64) w A0 l0.length l0) (hc0 : l0.length ≤ c0) (h : busbarlaw10_row.f k l0 = some r) :
  Calls Try.prog 39 #[.slice A0 l0.length c0] w fun e w' => ∃ v0_ : Value, e = .returned (v0_) ∧ Kd.R (Kd.int .u8) 5 w' w.heap.size (fun _ => True) v0_ r ∧ Below w.heap.size w w' := by
 have HR0 := Aside0.mk hr0
 have HC0 := Aside0.mk hc0
 clear hr0 hc0
 have HB := Aside0.mk (Below.refl w.heap.size w)
 have H : (busbarlaw10_row.l0 k l0 ([] : List Int) 0) = some r := h
 clear h
 have H' := Aside0.mk H
 clear H
 go_enter Try.func39, Try.ntmps39
 go_wp2
 go_loopg [3, 4] k (fun kq v3 v4 w' => ∃ (x3_1 : List Int) (x4_1 : Int), v4 = .int .i64 x4_1 ∧ Aside0 (busbarlaw10_row.l0 kq l0 x3_1 x4_1 = some r) ∧ Aside0 (kq ≤ k) ∧ Aside0 (Kd.R (Kd.int .u8) 5 w' w.heap.size (fun _ => True) v3 x3_1) ∧ Aside0 (Below w.heap.size w w'))
 case atStart => exact ⟨(([] : List Int)), (0), (by first | rfl | (simp; done) | (simp [*]; done)), H', ⟨Nat.le_refl _⟩, ⟨by first | exact Kd.R_nil _ _ _ _ _ | exact Kd.N_nil _ _ _ _ _ | exact Kd.V_nil _ _ _ _ _ | exact Kd.Q_nil _ _ _ _ _ | exact Kd.S_nil _ _ _ _ _⟩, ⟨by repeat (first | (with_reducible first | exact HB.out | apply below_alloc | apply pw_below_drewN | apply below_drew1) | exact HB.out)⟩⟩
 case round =>
  clear H'
  obtain ⟨x3_1, x4_1, rfl, HA, HK1, HO_3, HB⟩ := hrel
  cases gk with
  | zero => exact absurd HA.out (by simp [busbarlaw10_row.l0])
  | succ k1 =>
   have H := HA.out
   clear HA
   simp only [busbarlaw10_row.l0] at H
   have HC2 := Aside0.mk H
   clear H
   go_upto_region 3 with (fail)
   go_cut [12] (fun v12 wc => ∃ (kq : Nat) (x12_1 : Bool), v12 = .bool x12_1 ∧ Aside0 (busbarlaw10_row.j1 kq l0 x3_1 x4_1 x12_1 = some r) ∧ Aside0 (kq ≤ k1) ∧ Aside0 (Kd.R (Kd.int .u8) 5 wc w.heap.size (fun _ => True) u3 x3_1) ∧ Aside0 (Below w.heap.size w wc))
   case first =>
    have H := HC2.out
    clear HC2
    by_cases c3 : x4_1 < (l0.length : Int)
    ·
     rw [if_pos c3] at H
     have c3b0 : decide (x4_1 < (l0.length : Int)) = true := decide_eq_true c3
     clear c3
     (first | rw [c3b0] | (simp only [i64_w, i32_w]; rw [c3b0]) | skip)
     have H' := Aside0.mk H
     clear H
     go_wp2
     go_meet
     case rel => exact ⟨_, (decide (x4_1 < 12)), (by first | rfl | (simp; done) | (simp [*]; done)), H', ⟨by have := HK1.out; first | omega | exact Nat.le_refl _⟩, ⟨by (with_reducible repeat (first | apply Kd.R_alloc | apply Kd.R_drewN | apply Kd.R_drew)); exact HO_3.out⟩, ⟨by repeat (first | (with_reducible first | exact HB.out | apply below_alloc | apply pw_below_drewN | apply below_drew1) | exact HB.out)⟩⟩
    ·
     rw [if_neg c3] at H
     have c3b0 : decide (x4_1 < (l0.length : Int)) = false := decide_eq_false c3
     clear c3
     (first | rw [c3b0] | (simp only [i64_w, i32_w]; rw [c3b0]) | skip)
     have H' := Aside0.mk H
     clear H
     go_wp2
     go_meet
     case rel => exact ⟨_, (false), (by first | rfl | (simp; done) | (simp [*]; done)), H', ⟨by have := HK1.out; first | omega | exact Nat.le_refl _⟩, ⟨by (with_reducible repeat (first | apply Kd.R_alloc | apply Kd.R_drewN | apply Kd.R_drew)); exact HO_3.out⟩, ⟨by repeat (first | (with_reducible first | exact HB.out | apply below_alloc | apply pw_below_drewN | apply below_drew1) | exact HB.out)⟩⟩
   case rest =>
    clear HC2
    try clear p2
    try clear c3
    try clear c3b0
    obtain ⟨kq, x12_1, rfl, HA, HJ1, HO_3, HB⟩ := hcut
    cases kq with
    | zero => exact absurd HA.out (by simp [busbarlaw10_row.j1])
    | succ kj1 =>
     have H := HA.out
     clear HA
     simp only [busbarlaw10_row.j1] at H
     by_cases c4 : x12_1 = true
     ·
      subst c4
      have H1 : (if 0 ≤ x4_1 then (if x4_1 < (l0.length : Int) then ((busbarlaw0_Ask.f kj1 (rd l0 x4_1) (rd l0 x4_1)).bind fun bt351 => ((busbarlaw0_Frame.f kj1 bt351.1 bt351.2.1 bt351.2.2.1 bt351.2.2.2.1 bt351.2.2.2.2.1 bt351.2.2.2.2.2.1 bt351.2.2.2.2.2.2.1 bt351.2.2.2.2.2.2.2.1 bt351.2.2.2.2.2.2.2.2.1 bt351.2.2.2.2.2.2.2.2.2.1 bt351.2.2.2.2.2.2.2.2.2.2.1 bt351.2.2.2.2.2.2.2.2.2.2.2 x4_1 (rd l0 x4_1)).bind fun t368 => (if x3_1.length + t368.length < 140737488355328 then (busbarlaw10_row.l0 kj1 l0 (x3_1 ++ t368) (wrap64 (x4_1 + 1))) else (none)))) else (none)) else (none)) = some r := by rw [if_pos rfl] at H; exact H
      clear H
      have H := H1
      clear H1
      by_cases c5 : 0 ≤ x4_1
      ·
       rw [if_pos c5] at H
       have c5b0 : decide (0 ≤ x4_1) = true := decide_eq_true c5
       clear c5
       by_cases c6 : x4_1 < (l0.length : Int)
       ·
        rw [if_pos c6] at H
        have c6b0 : decide (x4_1 < (l0.length : Int)) = true := decide_eq_true c6
        clear c6
        replace H := Option.bind_eq_some_iff.mp H
        obtain ⟨⟨t351, t352, t353, t354, t355, t356, t357, t360, t363, t364, t365, t366⟩, A70, H⟩ := H
        replace H : ((busbarlaw0_Frame.f kj1 t351 t352 t353 t354 t355 t356 t357 t360 t363 t364 t365 t366 x4_1 (rd l0 x4_1)).bind fun t368 => (if x3_1.length + t368.length < 140737488355328 then (busbarlaw10_row.l0 kj1 l0 (x3_1 ++ t368) (wrap64 (x4_1 + 1))) else (none))) = some r := H
        have A7 := Aside0.mk A70
        clear A70
        replace H := Option.bind_eq_some_iff.mp H
        obtain ⟨t368, A80, H⟩ := H
        replace H : (if x3_1.length + t368.length < 140737488355328 then (busbarlaw10_row.l0 kj1 l0 (x3_1 ++ t368) (wrap64 (x4_1 + 1))) else (none)) = some r := H
        have A8 := Aside0.mk A80
        clear A80
        by_cases c9 : x3_1.length + t368.length < 140737488355328
        ·
         rw [if_pos c9] at H
         have LMc9 := Aside0.mk c9
         clear c9
         obtain ⟨y371, hy371⟩ : ∃ y_ : List Int, y_ = (x3_1 ++ t368) := ⟨_, rfl⟩
         replace H : (busbarlaw10_row.l0 kj1 l0 y371 (wrap64 (x4_1 + 1))) = some r := by first | (rw [hy371]; with_reducible exact H) | (have H2_ := (Option.bind_some _ _).symm.trans H; rw [hy371]; with_reducible exact H2_) | (have H2_ := (Option.bind_some _ _).symm.trans H; with_reducible exact H2_) | with_reducible exact H | (rw [hy371]; exact H) | exact H
         have Ny371 := Aside0.mk hy371
         clear hy371
         have H' := Aside0.mk H
         clear H
         try go_wp2
         have n0_ := Aside0.mk (Kd.R_drew HO_3.out)
         have n1_ := Aside0.mk (below_drew1 HB.out)
         clear HO_3
         clear HB
         have HO_3 := n0_
         have HB := n1_
         clear n0_ n1_
         have p349 : 0 ≤ (x4_1 : Int) := of_decide_eq_true (by first | (with_reducible assumption) | assumption)
         have q349 : x4_1 < (l0.length : Int) := of_decide_eq_true (by first | (with_reducible assumption) | assumption)
         obtain ⟨ad349, e349, hx349_0⟩ := Kd.at_int HR0.out x4_1 p349 q349
         have hw349_0 := hx349_0
         cases e349
         replace hx349_0 := (HB.out.cell (World.block_lt_of_cell? w _ hx349_0)).trans hx349_0
         replace p349 := eq_true p349
         replace q349 := eq_true q349
         have p350 : 0 ≤ (x4_1 : Int) := of_decide_eq_true (by first | (with_reducible assumption) | assumption)
         have q350 : x4_1 < (l0.length : Int) := of_decide_eq_true (by first | (with_reducible assumption) | assumption)
         obtain ⟨ad350, e350, hx350_0⟩ := Kd.at_int HR0.out x4_1 p350 q350
         have hw350_0 := hx350_0
         obtain rfl : ad349 = ad350 := (by injection e350)
         replace hx350_0 := (HB.out.cell (World.block_lt_of_cell? w _ hx350_0)).trans hx350_0
         replace p350 := eq_true p350
         replace q350 := eq_true q350
         have p367 : 0 ≤ (x4_1 : Int) := of_decide_eq_true (by first | (with_reducible assumption) | assumption)
         have q367 : x4_1 < (l0.length : Int) := of_decide_eq_true (by first | (with_reducible assumption) | assumption)
         obtain ⟨ad367, e367, hx367_0⟩ := Kd.at_int HR0.out x4_1 p367 q367
         have hw367_0 := hx367_0
         obtain rfl : ad349 = ad367 := (by injection e367)
         replace hx367_0 := (HB.out.cell (World.block_lt_of_cell? w _ hx367_0)).trans hx367_0
         replace p367 := eq_true p367
         replace q367 := eq_true q367
         refine start_ (n := 18) (S := fun w' => w'.cell? (ad349.add (x4_1).toNat) = some (.int .i64 (rd l0 x4_1)) ∧ w'.cell? (ad349.add (x4_1).toNat) = some (.int .i64 (rd l0 x4_1)) ∧ w'.cell? (ad349.add (x4_1).toNat) = some (.int .i64 (rd l0 x4_1))) (ds := []) #[false,false,false,false,false,false,false,false,false,false,false,false,false,false,false,false,false,false] (by kernel_rfl) rfl rfl ⟨((HB.out.cell (World.block_lt_of_cell? w _ hw349_0)).trans hw349_0), ((HB.out.cell (World.block_lt_of_cell? w _ hw350_0)).trans hw350_0), ((HB.out.cell (World.block_lt_of_cell? w _ hw367_0)).trans hw367_0)⟩ (fun hHeld => ?_); refine with_tabW busbarlaw10_row.tab5 busbarlaw10_row.bits5 (fun HT_ HW_ => ?_)
         generalize wc.drew = w10 at HO_3 HB hx349_0 hx350_0 hx367_0 hHeld ⊢
         refine pure_ (i := 0) (N := some 15) (v := ?_) (a' := ?_) #[true,false,false,false,false,false,false,false,false,false,false,false,false,false,false,false,false,false] rfl rfl (any_of HT_.out (by kernel_rfl)) (fun _ _ _ h => h) (Or.inl ⟨by rfl, ?_⟩) ?_ ?_
         rotate_left
         ·
          intro w'
          go_simp
          with_reducible rfl
         rotate_left
         ·
          simp only [Act.put, List.setIfInBounds_toArray, List.set_cons_zero, List.set_cons_succ, i64_w, i32_w]
          rfl
         refine pure_ (i := 1) (N := some 16) (v := ?_) (a' := ?_) #[true,true,false,false,false,false,false,false,false,false,false,false,false,false,false,false,false,false] rfl rfl (any_of HT_.out (by kernel_rfl)) (fun _ _ _ h => h) (Or.inl ⟨by rfl, ?_⟩) ?_ ?_
         rotate_left
         ·
          intro w'
          go_simp
          with_reducible rfl
         rotate_left
         ·
          simp only [Act.put, List.setIfInBounds_toArray, List.set_cons_zero, List.set_cons_succ, i64_w, i32_w]
          rfl
         refine pure_ (i := 2) (N := some 17) (v := ?_) (a' := ?_) #[true,true,true,false,false,false,false,false,false,false,false,false,false,false,false,false,false,false] rfl rfl (any_of HT_.out (by kernel_rfl)) (fun _ _ _ h => h) (Or.inl ⟨by rfl, ?_⟩) ?_ ?_
         rotate_left
         ·
          intro w'
          go_simp
          with_reducible rfl
         rotate_left
         ·
          simp only [Act.put, List.setIfInBounds_toArray, List.set_cons_zero, List.set_cons_succ, i64_w, i32_w]
          rfl
         refine pure_ (i := 3) (N := some 18) (v := ?_) (a' := ?_) #[true,true,true,true,false,false,false,false,false,false,false,false,false,false,false,false,false,false] rfl rfl (any_of HT_.out (by kernel_rfl)) (fun _ _ _ h => h) (Or.inl ⟨by rfl, ?_⟩) ?_ ?_
         rotate_left
         ·
          intro w'
          go_simp
          with_reducible rfl
         rotate_left
         ·
          simp only [Act.put, List.setIfInBounds_toArray, List.set_cons_zero, List.set_cons_succ, i64_w, i32_w]
          rfl
         refine pure_ (i := 5) (N := some 20) (v := ?_) (a' := ?_) #[true,true,true,true,false,true,false,false,false,false,false,false,false,false,false,false,false,false] rfl rfl (any_of HT_.out (by kernel_rfl)) (fun _ _ _ h => h) (Or.inl ⟨by rfl, ?_⟩) ?_ ?_
         rotate_left
         ·
          intro w'
          go_simp
          with_reducible rfl
         rotate_left
         ·
          simp only [Act.put, List.setIfInBounds_toArray, List.set_cons_zero, List.set_cons_succ, i64_w, i32_w]
          rfl
         refine pure_ (i := 6) (N := some 21) (v := ?_) (a' := ?_) #[true,true,true,true,false,true,true,false,false,false,false,false,false,false,false,false,false,false] rfl rfl (any_of HT_.out (by kernel_rfl)) (fun _ _ _ h => h) (Or.inl ⟨by rfl, ?_⟩) ?_ ?_
         rotate_left
         ·
          intro w'
          go_simp
          with_reducible rfl
         rotate_left
         ·
          simp only [Act.put, List.setIfInBounds_toArray, List.set_cons_zero, List.set_cons_succ, i64_w, i32_w]
          rfl
         refine pure_ (i := 7) (N := some 22) (v := ?_) (a' := ?_) #[true,true,true,true,false,true,true,true,false,false,false,false,false,false,false,false,false,false] rfl rfl (any_of HT_.out (by kernel_rfl)) (fun _ _ _ h => h) (Or.inl ⟨by rfl, ?_⟩) ?_ ?_
         rotate_left
         ·
          intro w'
          go_simp
          with_reducible rfl
         rotate_left
         ·
          simp only [Act.put, List.setIfInBounds_toArray, List.set_cons_zero, List.set_cons_succ, i64_w, i32_w]
          rfl
         refine pure_ (i := 10) (N := some 25) (v := ?_) (a' := ?_) #[true,true,true,true,false,true,true,true,false,false,true,false,false,false,false,false,false,false] rfl rfl (any_of HT_.out (by kernel_rfl)) (fun _ _ _ h => h) (Or.inl ⟨by rfl, ?_⟩) ?_ ?_
         rotate_left
         ·
          intro w'
          go_simp
          with_reducible rfl
         rotate_left
         ·
          simp only [Act.put, List.setIfInBounds_toArray, List.set_cons_zero, List.set_cons_succ, i64_w, i32_w]
          rfl
         refine pure_ (i := 11) (N := some 26) (v := ?_) (a' := ?_) #[true,true,true,true,false,true,true,true,false,false,true,true,false,false,false,false,false,false] rfl rfl (any_of HT_.out (by kernel_rfl)) (fun _ _ _ h => h) (Or.inl ⟨by rfl, ?_⟩) ?_ ?_
         rotate_left
         ·
          intro w'
          go_simp
          with_reducible rfl
         rotate_left
         ·
          simp only [Act.put, List.setIfInBounds_toArray, List.set_cons_zero, List.set_cons_succ, i64_w, i32_w]
          rfl
         refine pure_ (i := 12) (N := some 27) (v := ?_) (a' := ?_) #[true,true,true,true,false,true,true,true,false,false,true,true,true,false,false,false,false,false] rfl rfl (any_of HT_.out (by kernel_rfl)) (fun _ _ _ h => h) (Or.inl ⟨by rfl, ?_⟩) ?_ ?_
         rotate_left
         ·
          intro w'
          go_simp
          with_reducible rfl
         rotate_left
         ·
          simp only [Act.put, List.setIfInBounds_toArray, List.set_cons_zero, List.set_cons_succ, i64_w, i32_w]
          rfl
         refine pure_ (i := 13) (N := some 28) (v := ?_) (a' := ?_) #[true,true,true,true,false,true,true,true,false,false,true,true,true,true,false,false,false,false] rfl rfl (any_of HT_.out (by kernel_rfl)) (fun _ _ _ h => h) (Or.inl ⟨by rfl, ?_⟩) ?_ ?_
         rotate_left
         ·
          intro w'
          go_simp
          with_reducible rfl
         rotate_left
         ·
          simp only [Act.put, List.setIfInBounds_toArray, List.set_cons_zero, List.set_cons_succ, i64_w, i32_w]
          rfl
         refine take_ (i := 4) (N := some 19) (v := ?_) (a' := ?_) #[true,true,true,true,true,true,true,true,false,false,true,true,true,true,false,false,false,false] rfl rfl (take_ofW HT_.out HW_.out (by kernel_rfl)) (fun _ _ _ h => h) (Or.inl ⟨by rfl, ?_⟩) hHeld ?_ ?_
         rotate_left
         ·
          rintro w' ⟨s0, s1, s2⟩
          go_simp
          with_reducible rfl
         rotate_left
         ·
          simp only [Act.put, List.setIfInBounds_toArray, List.set_cons_zero, List.set_cons_succ, i64_w, i32_w]
          rfl
         refine take_ (i := 8) (N := some 23) (v := ?_) (a' := ?_) #[true,true,true,true,true,true,true,true,true,false,true,true,true,true,false,false,false,false] rfl rfl (take_ofW HT_.out HW_.out (by kernel_rfl)) (fun _ _ _ h => h) (Or.inl ⟨by rfl, ?_⟩) hHeld ?_ ?_
         rotate_left
         ·
          rintro w' ⟨s0, s1, s2⟩
          go_simp
          with_reducible rfl
         rotate_left
         ·
          simp only [Act.put, List.setIfInBounds_toArray, List.set_cons_zero, List.set_cons_succ, i64_w, i32_w]
          rfl
         refine take_ (i := 14) (N := some 29) (v := ?_) (a' := ?_) #[true,true,true,true,true,true,true,true,true,false,true,true,true,true,true,false,false,false] rfl rfl (take_ofW HT_.out HW_.out (by kernel_rfl)) (fun _ _ _ h => h) (Or.inl ⟨by rfl, ?_⟩) hHeld ?_ ?_
         rotate_left
         ·
          rintro w' ⟨s0, s1, s2⟩
          go_simp
          with_reducible rfl
         rotate_left
         ·
          simp only [Act.put, List.setIfInBounds_toArray, List.set_cons_zero, List.set_cons_succ, i64_w, i32_w]
          rfl
         refine one_ (i := 9) (N := some 24) #[true,true,true,true,true,true,true,true,true,true,true,true,true,true,true,false,false,false] rfl rfl (one_of HT_.out (by kernel_rfl)) (by decide) (fun K hK => ?_)
         refine goes_ Try.func29 (by kernel_rfl) rfl #[.int .i64 (rd l0 x4_1), .int .i64 (rd l0 x4_1)] (by rfl) rfl rfl (by (try simp only [List.map_toArray, List.map_cons, List.map_nil]); first | done | rfl | (simp only [List.length_drop, List.length_take]; rfl)) ?_
         with_reducible refine (busbarlaw0_Ask.calls kj1 (rd l0 x4_1) (rd l0 x4_1) t351 t352 t353 t354 t355 t356 t357 t360 t363 t364 t365 t366 _ A7.out).mono ?_
         rintro e w11 ⟨v358, v361, rfl, ho0, ho1, hb⟩
         refine ⟨_, rfl, ?_⟩
         have n0_ := Aside0.mk (Kd.R_below (by (with_reducible repeat (first | apply Kd.R_alloc | apply Kd.R_drewN | apply Kd.R_drew)); exact HO_3.out) hb)
         have n1_ := Aside0.mk (Kd.R_lower ho0 (below_size (by repeat (first | (with_reducible first | exact HB.out | apply below_alloc | apply pw_below_drewN | apply below_drew1) | exact HB.out))))
         have n2_ := Aside0.mk (Kd.R_lower ho1 (below_size (by repeat (first | (with_reducible first | exact HB.out | apply below_alloc | apply pw_below_drewN | apply below_drew1) | exact HB.out))))
         have n3_ := Aside0.mk (below_step (by repeat (first | (with_reducible first | exact HB.out | apply below_alloc | apply pw_below_drewN | apply below_drew1) | exact HB.out)) hb)
         clear HO_3
         clear HB
         have HO_3 := n0_
         have HO359 := n1_
         have HO362 := n2_
         have HB := n3_
         clear n0_ n1_ n2_ n3_
         (try clear hb)
         (try clear hb2)
         (try clear hk)
         (try clear hi)
         (try clear ho0)
         (try clear ho1)
         obtain ⟨Ao12, co12, eo12⟩ := Kd.R_slice HO359.out
         (first | subst eo12 | (injection eo12 with f1_ f2_ f3_; have f4_ := f1_.symm; have f5_ := f3_.symm; clear f1_ f2_ f3_; subst f4_; subst f5_))
         obtain ⟨Ao13, co13, eo13⟩ := Kd.R_slice HO362.out
         (first | subst eo13 | (injection eo13 with f1_ f2_ f3_; have f4_ := f1_.symm; have f5_ := f3_.symm; clear f1_ f2_ f3_; subst f4_; subst f5_))
         refine hK.out _ _ ⟨((HB.out.cell (World.block_lt_of_cell? w _ hw349_0)).trans hw349_0), ((HB.out.cell (World.block_lt_of_cell? w _ hw350_0)).trans hw350_0), ((HB.out.cell (World.block_lt_of_cell? w _ hw367_0)).trans hw367_0)⟩ (fun hHeld => ?_)
         clear hK K
         refine norm_ (a' := ?_) ?_ ?_
         rotate_left
         ·
          show Act.put _ (some 24) _ = _
          simp only [Act.put, List.setIfInBounds_toArray, List.set_cons_zero, List.set_cons_succ, i64_w, i32_w]
          rfl
         refine one_ (i := 15) (N := some 30) #[true,true,true,true,true,true,true,true,true,true,true,true,true,true,true,true,false,false] rfl rfl (one_of HT_.out (by kernel_rfl)) (by decide) (fun K hK => ?_)
         refine goes_ Try.func56 (by kernel_rfl) rfl #[.agg #[.int .i64 t351, .int .i64 t352, .int .i64 t353, .int .u16 t354, .int .u16 t355, .int .u16 t356, .slice Ao12 t357.length co12, .slice Ao13 t360.length co13, .int .i64 t363, .int .i64 t364, .int .i64 t365, .int .i64 t366], .int .i64 x4_1, .int .i64 (rd l0 x4_1)] (by rfl) rfl rfl (by (try simp only [List.map_toArray, List.map_cons, List.map_nil]); first | done | rfl | (simp only [List.length_drop, List.length_take]; rfl)) ?_
         with_reducible refine (busbarlaw0_Frame.calls kj1 t351 t352 t353 t354 t355 t356 _ _ t357 _ _ t360 t363 t364 t365 t366 x4_1 (rd l0 x4_1) t368 _ ?side1 ?side2 ?side3 ?side4 A8.out).mono ?_
         (case side1 => repeat (first | exact (Kd.R_reads' HO359.out).2.2 | (with_reducible refine Kd.C_alloc ?_ _) | (with_reducible refine Kd.C_drewN ?_ _) | (with_reducible refine Kd.C_drew ?_)))
         (case side2 => exact (Kd.R_reads' HO359.out).2.1)
         (case side3 => repeat (first | exact (Kd.R_reads' HO362.out).2.2 | (with_reducible refine Kd.C_alloc ?_ _) | (with_reducible refine Kd.C_drewN ?_ _) | (with_reducible refine Kd.C_drew ?_)))
         (case side4 => exact (Kd.R_reads' HO362.out).2.1)
         rintro e w14 ⟨v369, rfl, ho0, hb⟩
         refine ⟨_, rfl, ?_⟩
         have n0_ := Aside0.mk (Kd.R_elder' (by (with_reducible repeat (first | apply Kd.R_alloc | apply Kd.R_drewN | apply Kd.R_drew)); exact HO_3.out) (Kd.R_base ho0) hb)
         have n1_ := Aside0.mk (Kd.R_below (by (with_reducible repeat (first | apply Kd.R_alloc | apply Kd.R_drewN | apply Kd.R_drew)); exact HO359.out) hb)
         have n2_ := Aside0.mk (Kd.R_below (by (with_reducible repeat (first | apply Kd.R_alloc | apply Kd.R_drewN | apply Kd.R_drew)); exact HO362.out) hb)
         have n3_ := Aside0.mk (Kd.R_lower (Kd.R_new' ho0 (Kd.R_lt (by (with_reducible repeat (first | apply Kd.R_alloc | apply Kd.R_drewN | apply Kd.R_drew)); exact HO_3.out))) (below_size (by repeat (first | (with_reducible first | exact HB.out | apply below_alloc | apply pw_below_drewN | apply below_drew1) | exact HB.out))))
         have n4_ := Aside0.mk (below_step (by repeat (first | (with_reducible first | exact HB.out | apply below_alloc | apply pw_below_drewN | apply below_drew1) | exact HB.out)) hb)
         clear HO_3
         clear HO359
         clear HO362
         clear HB
         have HO_3 := n0_
         have HO359 := n1_
         have HO362 := n2_
         have HO370 := n3_
         have HB := n4_
         clear n0_ n1_ n2_ n3_ n4_
         (try clear hb)
         (try clear hb2)
         (try clear hk)
         (try clear hi)
         (try clear ho0)
         obtain ⟨Ao16, co16, eo16⟩ := Kd.R_slice HO370.out
         (first | subst eo16 | (injection eo16 with f1_ f2_ f3_; have f4_ := f1_.symm; have f5_ := f3_.symm; clear f1_ f2_ f3_; subst f4_; subst f5_))
         refine hK.out _ _ ⟨((HB.out.cell (World.block_lt_of_cell? w _ hw349_0)).trans hw349_0), ((HB.out.cell (World.block_lt_of_cell? w _ hw350_0)).trans hw350_0), ((HB.out.cell (World.block_lt_of_cell? w _ hw367_0)).trans hw367_0)⟩ (fun hHeld => ?_)
         clear hK K
         refine norm_ (a' := ?_) ?_ ?_
         rotate_left
         ·
          show Act.put _ (some 30) _ = _
          simp only [Act.put, List.setIfInBounds_toArray, List.set_cons_zero, List.set_cons_succ, i64_w, i32_w]
          rfl
         refine one_ (i := 16) (N := some 31) #[true,true,true,true,true,true,true,true,true,true,true,true,true,true,true,true,true,false] rfl rfl (one_of HT_.out (by kernel_rfl)) (by decide) (fun K hK => ?_)
         refine Kd.R_append_rows_step (Kd.int .u8) (w0 := w) w.heap.size (by rfl) (.tmp 15) (.tmp 30) 30 5 (.int .u8 0) 1 rfl Try.underlying30 info5 rfl (by decide) (by omega) u3 x3_1 t368 _ _ _ (fun k_ => some k_ ≠ (.slice Ao16 t368.length co16 : Value).ownBlock) (fun _ => False) rfl rfl ?aO ?aR (fun _ _ h => h) (fun _ h => h.elim) ?aF ?aB ?aS ?aL ?_
         (case aR => repeat (first | exact (Kd.R_reads' HO370.out).2.2 | (with_reducible refine Kd.C_alloc ?_ _) | (with_reducible refine Kd.C_drewN ?_ _) | (with_reducible refine Kd.C_drew ?_)))
         (case aB => exact (by repeat (first | (with_reducible first | exact HB.out | apply below_alloc | apply pw_below_drewN | apply below_drew1) | exact HB.out)))
         (case aF => exact (fun k_ hk => Kd.fresh' (Kd.R_lt (by (with_reducible repeat (first | apply Kd.R_alloc | apply Kd.R_drewN | apply Kd.R_drew)); exact HO370.out)) k_ hk))
         (case aO => exact (by (with_reducible repeat (first | apply Kd.R_alloc | apply Kd.R_drewN | apply Kd.R_drew)); exact Kd.R_mono HO_3.out (fun _ hk => by first | exact hk.2 | exact hk)))
         (case aS => exact (below_size (by repeat (first | (with_reducible first | exact HB.out | apply below_alloc | apply pw_below_drewN | apply below_drew1) | exact HB.out))))
         (case aL => have := LMc9.out; omega)
         intro v372 w15 ho hb hg hat
         rw [← Ny371.out] at ho
         have n0_ := Aside0.mk (Kd.R_over' (by (with_reducible repeat (first | apply Kd.R_alloc | apply Kd.R_drewN | apply Kd.R_drew)); exact HO359.out) (Kd.R_typed (by (with_reducible repeat (first | apply Kd.R_alloc | apply Kd.R_drewN | apply Kd.R_drew)); exact HO_3.out)) (by decide) hg)
         have n1_ := Aside0.mk (Kd.R_over' (by (with_reducible repeat (first | apply Kd.R_alloc | apply Kd.R_drewN | apply Kd.R_drew)); exact HO362.out) (Kd.R_typed (by (with_reducible repeat (first | apply Kd.R_alloc | apply Kd.R_drewN | apply Kd.R_drew)); exact HO_3.out)) (by decide) hg)
         have n2_ := Aside0.mk (Kd.R_after (ok := (fun _ => True)) (by (with_reducible repeat (first | apply Kd.R_alloc | apply Kd.R_drewN | apply Kd.R_drew)); exact HO370.out) hg hat)
         have n3_ := Aside0.mk (hb)
         have n4_ := Aside0.mk (ho)
         clear HO359
         clear HO362
         clear HO370
         clear HB
         clear HO_3
         have HO359 := n0_
         have HO362 := n1_
         have HO370 := n2_
         have HB := n3_
         have HO373 := n4_
         clear n0_ n1_ n2_ n3_ n4_
         clear ho hb hg hat
         refine hK.out _ _ ⟨((HB.out.cell (World.block_lt_of_cell? w _ hw349_0)).trans hw349_0), ((HB.out.cell (World.block_lt_of_cell? w _ hw350_0)).trans hw350_0), ((HB.out.cell (World.block_lt_of_cell? w _ hw367_0)).trans hw367_0)⟩ (fun hHeld => ?_)
         clear hK K
         refine norm_ (a' := ?_) ?_ ?_
         rotate_left
         ·
          show Act.put _ (some 31) _ = _
          simp only [Act.put, List.setIfInBounds_toArray, List.set_cons_zero, List.set_cons_succ, i64_w, i32_w]
          rfl
         refine pure_ (i := 17) (N := some 3) (v := ?_) (a' := ?_) #[true,true,true,true,true,true,true,true,true,true,true,true,true,true,true,true,true,true] rfl rfl (any_of HT_.out (by kernel_rfl)) (fun _ _ _ h => h) (Or.inl ⟨by rfl, ?_⟩) ?_ ?_
         rotate_left
         ·
          intro w'
          go_simp
          with_reducible rfl
         rotate_left
         ·
          simp only [Act.put, List.setIfInBounds_toArray, List.set_cons_zero, List.set_cons_succ, i64_w, i32_w]
          rfl
         refine done_ (done_of HT_.out (by kernel_rfl)) ?_
         try go_wp2
         go_roundg kj1
         case measure => have := HK1.out; have := HJ1.out; omega
         case rel => exact ⟨(y371), (wrap64 (x4_1 + 1)), (by first | rfl | (simp; done) | (simp [*]; done)), H', ⟨by have := HK1.out; have := HJ1.out; omega⟩, ⟨by (with_reducible repeat (first | apply Kd.R_alloc | apply Kd.R_drewN | apply Kd.R_drew)); exact Kd.R_mono HO373.out (fun _ hk => trivial)⟩, ⟨by repeat (first | (with_reducible first | exact HB.out | apply below_alloc | apply pw_below_drewN | apply below_drew1) | exact HB.out)⟩⟩
        ·
         rw [if_neg c9] at H
         exact absurd H (by simp)
       ·
        rw [if_neg c6] at H
        exact absurd H (by simp)
      ·
       rw [if_neg c5] at H
       exact absurd H (by simp)
     ·
      replace c4 := Bool.eq_false_iff.mpr c4
      subst c4
      have H1 : (some x3_1) = some r := by rw [if_neg (show ¬ (false = true) by decide)] at H; exact H
      clear H
      have H := H1
      clear H1
      obtain rfl := Option.some.inj H
      go_wp2
      go_ret
      exact ⟨_, by first | rfl | (simp [errW_none, errW_some] <;> rfl) | (simp [*, errW_none, errW_some] <;> rfl), by (with_reducible repeat (first | apply Kd.R_alloc | apply Kd.R_drewN | apply Kd.R_drew)); exact HO_3.out, by repeat (first | (with_reducible first | exact HB.out | apply below_alloc | apply pw_below_drewN | apply below_drew1) | exact HB.out)⟩
end Go.Proofs.Ytakiojmjalbfpaa.PFlow
set_option linter.unusedVariables false
set_option linter.unusedSimpArgs false
namespace Go.Proofs.Ytakiojmjalbfpaa.Ring
open Go.RowKit Go.Proofs.YtakiojmjalbfpaaW.PrintWords Go.Proofs.YtakiojmjalbfpaaW.PrintLast Go.Proofs.YtakiojmjalbfpaaW.PrintMore Go.Proofs.Ytakiojmjalbfpaa.PFlow Go.Proofs.Ytakiojmjalbfpaa.Num Go.Proofs.Ytakiojmjalbfpaa.LemPkFlow Go.Proofs.Ytakiojmjalbfpaa.LemAskCFlow Go.Proofs.Ytakiojmjalbfpaa.LemAskDFlow Go.Proofs.Ytakiojmjalbfpaa.LemAduFlow Go.Proofs.Ytakiojmjalbfpaa.LemHeadFlow Go.Proofs.Ytakiojmjalbfpaa.LemWithinFlow
def rowG (ks : List Int) (i : Nat) : List Int := fr (i : Int) (rd ks (i : Int) % 256) (pk (rd ks (i : Int)) (rd ks (i : Int)))
def rowl (ks : List Int) : List Int := cats (rowG ks) (min ks.length 12) 0
theorem row_bd (ks : List Int) (hks : ∀ x ∈ ks, Bd x) (i : Nat) (hi : i < ks.length) : Bd (rd ks (i : Int)) := by rw [rd_get ks i hi]; exact hks _ (List.getElem_mem hi)
theorem rowG_ok (ks : List Int) (hks : ∀ x ∈ ks, Bd x) (i : Nat) (hi : i < ks.length) (h12 : i < 12) : Ok (i : Int) (((pk (rd ks (i : Int)) (rd ks (i : Int))).length : Int) + 1) (rd ks (i : Int) % 256) ∧ (rowG ks i).length = 7 + (pk (rd ks (i : Int)) (rd ks (i : Int))).length ∧ 8 ≤ (rowG ks i).length ∧ (rowG ks i).length ≤ 260 ∧ B8 (rowG ks i) :=
  fr_ok _ _ _ _ (by omega) ⟨Int.emod_nonneg _ (by omega), Int.emod_lt_of_pos _ (by omega)⟩ (row_bd ks hks i hi) (row_bd ks hks i hi)
theorem frame_row (ks : List Int) (hks : ∀ x ∈ ks, Bd x) (i : Nat) (hi : i < ks.length) (h12 : i < 12) (k : Nat) (hk : 100 ≤ k) : ∃ r : Tup, busbarlaw0_Ask.f k (rd ks (i : Int)) (rd ks (i : Int)) = some r ∧ busbarlaw0_Frame.f k r.1 r.2.1 r.2.2.1 r.2.2.2.1 r.2.2.2.2.1 r.2.2.2.2.2.1 r.2.2.2.2.2.2.1 r.2.2.2.2.2.2.2.1 r.2.2.2.2.2.2.2.2.1 r.2.2.2.2.2.2.2.2.2.1 r.2.2.2.2.2.2.2.2.2.2.1 r.2.2.2.2.2.2.2.2.2.2.2 (i : Int) (rd ks (i : Int)) = some (rowG ks i) := by
  have hx := row_bd ks hks i hi
  obtain ⟨r, h1, h2, h3, h4, h5⟩ := pk_spec _ _ hx hx
  obtain ⟨f1, f2, f3, f4, f5⟩ := rowG_ok ks hks i hi h12
  refine ⟨r, h1 k hk, ?_⟩
  have hab := h2 k hk
  unfold AB at hab
  unfold busbarlaw0_Frame.f
  unfold Bd at hx
  rw [hab, Option.bind_some, within_eq (i : Int) 65536 (by omega) (by omega), Option.bind_some, Int.emod_eq_of_lt (a := (i : Int)) (b := 65536) (by omega) (by omega), within_eq (rd ks (i : Int)) 256 (by omega) (by omega), Option.bind_some]
  rw [refbytes_ok _ _ (pk (rd ks (i : Int)) (rd ks (i : Int))) (by omega) f1 (by omega), Option.bind_some]
  rfl
theorem row_l0 (ks : List Int) (hks : ∀ x ∈ ks, Bd x) (hm : ks.length ≤ 9223372036854775807) (N : Nat) (hN : N = min ks.length 12) : ∀ (d i : Nat) (acc : List Int) (k : Nat), i + d = N → acc.length ≤ 260 * i → 100 ≤ k → busbarlaw10_row.l0 (k + 2 * d + 2) ks acc (i : Int) = some (acc ++ cats (rowG ks) d i)
  | 0, i, acc, k, hi, ha, hk => by
    rw [show k + 2 * 0 + 2 = k + 1 + 1 by omega, busbarlaw10_row.l0, cats, List.append_nil]
    by_cases h : (i : Int) < (ks.length : Int)
    · rw [if_pos h, decide_eq_false (by omega), busbarlaw10_row.j1, if_neg (by decide)]
    · rw [if_neg h, busbarlaw10_row.j1, if_neg (by decide)]
  | d + 1, i, acc, k, hi, ha, hk => by
    obtain ⟨f1, f2, f3, f4, f5⟩ := rowG_ok ks hks i (by omega) (by omega)
    obtain ⟨r, g1, g2⟩ := frame_row ks hks i (by omega) (by omega) (k + 2 * d + 2) (by omega)
    rw [show k + 2 * (d + 1) + 2 = k + 2 * d + 2 + 1 + 1 by omega, busbarlaw10_row.l0, if_pos (by omega), decide_eq_true (by omega), busbarlaw10_row.j1, if_pos rfl, if_pos (by omega), if_pos (by omega), g1, Option.bind_some, g2, Option.bind_some, if_pos (by omega), wrap64_id (x := (i : Int) + 1) (by omega) (by omega)]
    have ih := row_l0 ks hks hm N hN d (i + 1) (acc ++ rowG ks i) k (by omega) (by rw [List.length_append]; omega) hk
    rw [List.append_assoc] at ih
    exact ih
theorem row_eq (ks : List Int) (hks : ∀ x ∈ ks, Bd x) (hm : ks.length ≤ 9223372036854775807) : ∃ k, busbarlaw10_row.f k ks = some (rowl ks) := by
  refine ⟨100 + 2 * (min ks.length 12) + 2, ?_⟩
  unfold busbarlaw10_row.f
  have h := row_l0 ks hks hm _ rfl (min ks.length 12) 0 [] 100 (by omega) (by simp) (by omega)
  rw [List.nil_append] at h
  exact h
theorem row_c (ks : List Int) (hks : ∀ x ∈ ks, Bd x) (A0 : Option Addr) (c0 : Nat) (w : World) (hr0 : Kd.C (Kd.int .i64) w A0 ks.length ks) (hc0 : ks.length ≤ c0) :
    Calls Try.prog 39 #[.slice A0 ks.length c0] w fun e w' => ∃ A c, e = .returned (.slice A (rowl ks).length c) ∧ Kd.R (Kd.int .u8) 5 w' w.heap.size (fun _ => True) (.slice A (rowl ks).length c) (rowl ks) ∧ Below w.heap.size w w' := by
  obtain ⟨k, hk⟩ := row_eq ks hks (by have := hr0.2.1; omega)
  refine (busbarlaw10_row.calls k A0 c0 ks (rowl ks) w hr0 hc0 hk).mono ?_
  rintro e w1 ⟨v, rfl, hR, hb⟩
  obtain ⟨A, c, rfl⟩ := Kd.R_slice hR
  exact ⟨A, c, rfl, hR, hb⟩
theorem first_row (ks : List Int) (hks : ∀ x ∈ ks, Bd x) (i : Nat) (hi : i < ks.length) (h12 : i < 12) (rest : List Int) : firstOf cutl (rowG ks i ++ rest) false = ((i : Int), rd ks (i : Int) % 256, pk (rd ks (i : Int)) (rd ks (i : Int)), ((rowG ks i).length : Int), 0) ∧ nextOf cutl (rowG ks i ++ rest) false = (rest, false) := by
  obtain ⟨f1, f2, f3, f4, f5⟩ := rowG_ok ks hks i hi h12
  have h1 : firstOf cutl (rowG ks i ++ rest) false = ((i : Int), rd ks (i : Int) % 256, pk (rd ks (i : Int)) (rd ks (i : Int)), ((rowG ks i).length : Int), 0) := by
    show cutl ((rowG ks i ++ rest).take 260) = _
    rw [List.take_append, List.take_of_length_le f4]
    have := cut_frame (i : Int) (rd ks (i : Int) % 256) (pk (rd ks (i : Int)) (rd ks (i : Int))) (rest.take (260 - (rowG ks i).length)) f1
    rw [f2] at this ⊢
    rw [Int.natCast_add]
    exact this
  refine ⟨h1, ?_⟩
  unfold nextOf
  rw [h1]
  show (if (0 : Int) = 2 then _ else _) = _
  rw [if_neg (by omega)]
  show (List.drop ((rowG ks i).length : Int).toNat (rowG ks i ++ rest), false) = _
  rw [Int.toNat_natCast, List.drop_left]
end Go.Proofs.Ytakiojmjalbfpaa.Ring
