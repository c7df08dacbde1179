/- Words and walks for FlowPlays (made of the session's own texts; each part by itself). -/
import Derived.BigRegion
import Derived.Test.YtakiojmjalbfpaaProg
import Derived.Below
import Derived.Deep.Draws
import Derived.Deep.AppendLies
import Derived.Maps.AppendAt
import Derived.OwnWalk
import Derived.Laws.BytesArg
import Derived.Laws.MakeOwn
import Derived.Laws.OwnMore
import Derived.Deep.OwnRows
import Derived.Tactics
import Derived.Lib.ConvBytes
import Derived.Laws.Slices
import Derived.WalkKit
import Derived.KernelRfl
import Derived.RowKit3
import Derived.Deep.LoopGhost
import Derived.Deep.QuietTactic
import Derived.BigQuiet
import Derived.WideLaws
import Derived.Deep.DeepCutAuto
import Derived.Deep.CutBlock
import Derived.Deep.RegionHeld3
import Derived.Laws.Rows
import Derived.Lib.AppendStr
import Derived.ArgAppend
import Derived.Laws.IdiomCopy
import Derived.OrdersHeld
import Derived.Laws.BitsLemmas
import Derived.RowKit
import Derived.Test.YtakiojmjalbfpaaZFlowPlays5
set_option linter.unusedVariables false
set_option linter.unusedSimpArgs false
namespace Go.Proofs.Ytakiojmjalbfpaa.Ring
open Go.RowKit Go.Proofs.YtakiojmjalbfpaaW.PrintWords Go.Proofs.YtakiojmjalbfpaaW.PrintLast Go.Proofs.YtakiojmjalbfpaaW.PrintMore
attribute [local go_sem] plus_setCell_drewN plus_cell_same
theorem ring_Look2 (w : World) (g B M : Nat) (q : List Int) (h : RingW w g B M q) (n : Int) (k : Nat) (hk : k = (q.take n.toNat).length) :
    Calls Try.prog 21 #[.pointer (some ⟨g, 0, none⟩), .int .i64 n] w fun e w' => ∃ A c, e = .returned (.slice A k c) ∧ Kd.R (Kd.int .u8) 5 w' w.heap.size (fun _ => True) (.slice A k c) (q.take n.toNat) ∧ Below w.heap.size w w' := by
  refine (ring_Look w g B M q h n).mono ?_
  rintro e w1 ⟨v, rfl, hR, hb⟩
  obtain ⟨Ao, co, eo⟩ := Kd.R_slice hR
  subst eo
  rw [← hk] at hR ⊢
  exact ⟨_, _, rfl, hR, hb⟩
set_option maxRecDepth 100000 in
theorem ring_Take (w : World) (g B M : Nat) (q : List Int) (h : RingW w g B M q) (n : Int) (k : Nat) (hk : k = (q.take n.toNat).length) :
    Calls Try.prog 23 #[.pointer (some ⟨g, 0, none⟩), .int .i64 n] w fun e w' => ∃ A c, e = .returned (.slice A k c) ∧ Kd.R (Kd.int .u8) 5 w' w.heap.size (fun _ => True) (.slice A k c) (q.take n.toNat) ∧ RingW w' g B M (q.drop n.toNat) ∧ Fr2 g B w w' := by
  have hu76 := Try.underlying76
  have hu30 := Try.underlying30
  have H := Lib.hid h
  have hlt := h.lt
  have hle := h.le
  have hgB := h.ne
  have hkq : k ≤ q.length := by rw [hk, List.length_take]; omega
  have HK := Lib.hid hk
  obtain ⟨f, bs, hg, hB, hl, hM, hq, hf, hc⟩ := h.ex
  have HG := Lib.hid hg
  have HBB := Lib.hid hB
  have HL := Lib.hid hl
  have HC := Lib.hid hc
  clear hk h hg hB hl hc
  by_cases hk0 : 0 < k
  · have hd : decide (0 < (k : Int)) = true := decide_eq_true (by omega)
    have R1 := Lib.hid (show ((f : Int) + (k : Int)) % (M : Int) = (((f + k) % M : Nat) : Int) by rw [Int.natCast_emod, Int.natCast_add])
    have R2 := Lib.hid (show (q.length : Int) - (k : Int) = ((q.length - k : Nat) : Int) by omega)
    have hM0 : ¬ (M : Int) = 0 := by omega
    go_enter Try.func23, Try.ntmps23
    go_wp2_with (go_at_call 21; refine (ring_Look2 w g B M q H.out n k HK.out).mono ?_; rintro e w1 ⟨A, c, rfl, hR, hb⟩)
    have HR := Lib.hid hR
    have HB := Lib.hid hb
    have D1 := Lib.hid (blk_below HG.out hb)
    have D2 := Lib.hid (blk_below HBB.out hb)
    clear hR hb
    obtain ⟨c0, c1, c2⟩ := blkc3 D1.out
    obtain ⟨f0, f1, f2⟩ := blkf3 D1.out
    go_region
    go_wp2
    go_ret
    have hfin1 := blk_put (blk_put (blk_drew D1.out) 1 (.int .i64 (((f : Int) + (k : Int)) % (M : Int))) rfl) 2 (.int .i64 ((q.length : Int) - (k : Int))) rfl
    have hfin2 := blk_far (blk_far (blk_drew D2.out) (show B ≠ (⟨g, 1, none⟩ : Addr).block from fun e => hgB e.symm) (.int .i64 (((f : Int) + (k : Int)) % (M : Int)))) (show B ≠ (⟨g, 2, none⟩ : Addr).block from fun e => hgB e.symm) (.int .i64 ((q.length : Int) - (k : Int)))
    have hfin3 := Kd.R_far (Kd.R_far (Kd.R_drew (Kd.R_bound HR.out)) (p := ⟨g, 1, none⟩) (fun k_ h_ => by have := h_.2.1; show k_ ≠ g; omega) (.int .i64 (((f : Int) + (k : Int)) % (M : Int)))) (p := ⟨g, 2, none⟩) (fun k_ h_ => by have := h_.2.1; show k_ ≠ g; omega) (.int .i64 ((q.length : Int) - (k : Int)))
    have hfr : Fr2 g B w ((w1.drew.setCell ⟨g, 1, none⟩ (.int .i64 (((f : Int) + (k : Int)) % (M : Int)))).setCell ⟨g, 2, none⟩ (.int .i64 ((q.length : Int) - (k : Int)))) := (Fr2.of_below HB.out).trans ((Fr2.of_below (below_drew (Below.refl _ _))).trans ((Fr2.set _ _ _).trans (Fr2.set _ _ _)))
    have hkn : (q.take n.toNat).length = k := HK.out.symm
    rw [List.length_take] at hkn
    have hdr : q.drop n.toNat = q.drop k := by
      rcases Nat.lt_or_ge n.toNat q.length with h0 | h0
      · rw [show n.toNat = k by omega]
      · rw [List.drop_eq_nil_of_le (by omega), List.drop_eq_nil_of_le (by omega)]
    refine ⟨_, _, rfl, Kd.R_mono hfin3 (fun _ _ => trivial), ⟨(f + k) % M, bs, ?_, hfin2, HL.out, hM, by rw [List.length_drop]; omega, .inr (Nat.mod_lt _ (by omega)), ?_⟩, hfr⟩
    · rw [hdr, List.length_drop, ← R1.out, ← R2.out]
      exact hfin1
    · rw [hdr]
      exact take_list bs q f M k (by omega) HC.out
  · have hd : decide (0 < (k : Int)) = false := decide_eq_false (by omega)
    go_enter Try.func23, Try.ntmps23
    go_wp2_with (go_at_call 21; refine (ring_Look2 w g B M q H.out n k HK.out).mono ?_; rintro e w1 ⟨A, c, rfl, hR, hb⟩)
    go_ret
    refine ⟨_, _, rfl, hR, ?_, Fr2.of_below hb⟩
    have h1 := H.out.below hb
    have h2 := HK.out
    rw [List.length_take] at h2
    rcases Nat.eq_zero_or_pos n.toNat with h0 | h0
    · rw [h0, List.drop_zero]
      exact h1
    · have : q = [] := List.eq_nil_of_length_eq_zero (by omega)
      subst this
      rw [List.drop_nil]
      exact h1
end Go.Proofs.Ytakiojmjalbfpaa.Ring
set_option linter.unusedVariables false
set_option linter.unusedSimpArgs false
namespace Go.Proofs.Ytakiojmjalbfpaa.Ring
open Go.RowKit Go.Proofs.YtakiojmjalbfpaaW.PrintWords Go.Proofs.YtakiojmjalbfpaaW.PrintLast Go.Proofs.YtakiojmjalbfpaaW.PrintMore
attribute [local go_sem] plus_setCell_drewN plus_cell_same
theorem C_grown {w w1 : World} {A : Option Addr} {n : Nat} {l : List Int} {B : Nat} (h : Kd.C (Kd.int .u8) w A n l) (hg : w.grownBy w1 (some B)) (hne : ∀ a, A = some a → a.block ≠ B) : Kd.C (Kd.int .u8) w1 A n l := by
  refine ⟨h.1, h.2.1, fun h0 => ?_⟩
  obtain ⟨ad, rfl, hr⟩ := h.2.2 h0
  refine ⟨ad, rfl, fun j p hp => ?_⟩
  obtain ⟨c, h1, h2, h3⟩ := hr j p hp
  refine ⟨c, h1, h2, fun i u hu => ?_⟩
  have hb : (ad.add (j * (Kd.int .u8).sz + i)).block = ad.block := by unfold Addr.add; split <;> rfl
  exact cell_grown hg (h3 i u hu) (fun e => hne ad rfl (by rw [← hb]; injection e))
theorem C_take {w : World} {A : Option Addr} {n : Nat} {l : List Int} (h : Kd.C (Kd.int .u8) w A n l) (m : Nat) (hm : m ≤ n) : Kd.C (Kd.int .u8) w A m (l.take m) := by
  have := C_cut h 0 m (by omega) A (fun _ => by cases A <;> simp [Addr.add])
  rwa [List.drop_zero] at this
theorem C_skip {w : World} {A A1 : Option Addr} {n : Nat} {l : List Int} (h : Kd.C (Kd.int .u8) w A n l) (d : Nat) (hd : d ≤ n) (hA : 0 < n - d → A1 = A.map (·.add d)) : Kd.C (Kd.int .u8) w A1 (n - d) (l.drop d) := by
  have := C_cut h d (n - d) (by omega) A1 hA
  rwa [List.take_of_length_le (by rw [List.length_drop]; have := h.1; omega)] at this
theorem cell_of_heap {w w1 : World} {a : Addr} (h : w1.heap[a.block]? = w.heap[a.block]?) : w1.cell? a = w.cell? a := by
  unfold World.cell?
  rw [h]
theorem R_args {w : World} {base B n c : Nat} {A : Option Addr} {l : List Int} {ok : Nat → Prop} (h : Kd.R (Kd.int .u8) 5 w base ok (.slice A n c) l) (hB : B < base) : n = l.length ∧ l.length ≤ c ∧ Kd.C (Kd.int .u8) w A l.length l ∧ (0 < l.length → ∀ a, A = some a → a.block ≠ B) := by
  obtain ⟨h1, h2, h3⟩ := Kd.R_reads' h
  subst h1
  refine ⟨rfl, h2, h3, fun h0 a ha => ?_⟩
  obtain ⟨g, cap, e, hg, _, _⟩ := Kd.R_form h h0
  injection e with e _ _
  rw [e] at ha
  injection ha with ha
  subst ha
  show g ≠ B
  omega
set_option maxRecDepth 100000 in
theorem ring_Put (w : World) (g B M : Nat) (q : List Int) (h : RingW w g B M q) (A0 : Option Addr) (c0 : Nat) (l : List Int) (hr : Kd.C (Kd.int .u8) w A0 l.length l) (hc0 : l.length ≤ c0) (hne : 0 < l.length → ∀ a, A0 = some a → a.block ≠ B) (m : Nat) (hm : m = min l.length (M - q.length)) :
    Calls Try.prog 18 #[.pointer (some ⟨g, 0, none⟩), .slice A0 l.length c0] w fun e w' => e = .returned (.int .i64 (m : Int)) ∧ RingW w' g B M (q ++ l.take m) ∧ Fr2 g B w w' := by
  have hu76 := Try.underlying76
  have hu30 := Try.underlying30
  have H := Lib.hid h
  have hlt := h.lt
  have hle := h.le
  have hgB := h.ne
  have HM := Lib.hid hm
  have HR := Lib.hid hr
  have HN := Lib.hid hne
  have hml : m ≤ l.length := by omega
  have hmc : m ≤ c0 := by omega
  have hl9 : l.length ≤ 9223372036854775807 := by have := hr.2.1; omega
  have hqm : q.length + m ≤ M := by omega
  have hch := cut_high A0 m l.length c0 hmc
  obtain ⟨r, hr_⟩ : ∃ r : Int, r = (M : Int) - q.length := ⟨_, rfl⟩
  have hmin : (m : Int) = min (l.length : Int) r := by omega
  have N1 := Lib.hid hr_
  have N2 := Lib.hid hmin
  obtain ⟨f, bs, hg, hB, hl, hM, hq, hf, hc⟩ := h.ex
  have HG := Lib.hid hg
  have HBB := Lib.hid hB
  have HL := Lib.hid hl
  have HC := Lib.hid hc
  clear hm h hg hB hl hc hr hr_ hne hmin
  by_cases hm0 : m = 0
  · subst hm0
    go_enter Try.func18, Try.ntmps18
    go_wp2_with (first | (go_at_call 26; refine (ring_Room w g B M q H.out).mono ?_; rintro e w1 ⟨rfl, nd, rfl⟩; rw [← N1.out]) | ((with_reducible refine gate_dst (N := 12) rfl ?_); refine wl_min rfl (.tmp 9) (.tmp 11) _ rfl .i64 l.length r 0 rfl rfl N2.out ?_))
    go_ret
    refine ⟨rfl, ?_, Fr2.of_below (pw_below_drewN (Below.refl _ _) _)⟩
    rw [List.take_zero, List.append_nil]
    exact H.out.below (pw_below_drewN (Below.refl _ _) _)
  · have hd : decide ((m : Int) = 0) = false := decide_eq_false (by omega)
    go_enter Try.func18, Try.ntmps18
    go_wp2_with (first | (go_at_call 26; refine (ring_Room w g B M q H.out).mono ?_; rintro e w1 ⟨rfl, nd, rfl⟩; rw [← N1.out]) | ((with_reducible refine gate_dst (N := 12) rfl ?_); refine wl_min rfl (.tmp 9) (.tmp 11) _ rfl .i64 l.length r m rfl rfl N2.out ?_))
    have D1 := Lib.hid (blk_drewN HG.out nd)
    have D2 := Lib.hid (blk_drewN HBB.out nd)
    have D3 := Lib.hid (Kd.C_drewN HR.out nd)
    have D4 : Hid (Fr2 g B w (w.drewN nd)) := Fr2.of_below (pw_below_drewN (Below.refl _ _) _)
    generalize w.drewN nd = w1 at *
    obtain ⟨c0_, c1, c2⟩ := blkc3 D1.out
    have hM0 : ¬ (M : Int) = 0 := by omega
    obtain ⟨t, ht⟩ : ∃ t, t = (f + q.length) % M := ⟨_, rfl⟩
    have htM : t < M := by rw [ht]; exact Nat.mod_lt _ (by omega)
    have hte : ((f : Int) + (q.length : Int)) % (M : Int) = (t : Int) := by rw [ht, Int.natCast_emod, Int.natCast_add]
    obtain ⟨A1, hA1, hsl⟩ := cut_low B t M M (by omega) (Nat.le_refl _)
    obtain ⟨d, hd_⟩ : ∃ d, d = min m (M - t) := ⟨_, rfl⟩
    obtain ⟨A2, hA2, hsl2⟩ := cut_low_any A0 d m c0 (by omega) hmc
    have T1 := Lib.hid ht
    have T2 := Lib.hid hA1
    have T3 := Lib.hid hd_
    have T4 := Lib.hid hA2
    clear ht hA1 hd_ hA2
    go_quiet (fail)
    rw [hte]
    clear hte
    have D5 := Lib.hid (blk_drewN D1.out nq)
    have D6 := Lib.hid (blk_drewN D2.out nq)
    have D7 := Lib.hid (Kd.C_drewN D3.out nq)
    have D8 := Lib.hid (D4.out.trans (Fr2.of_below (pw_below_drewN (Below.refl _ _) nq)))
    generalize w1.drewN nq = w2 at *
    clear c0_ c1 c2 D1 D2 D3 D4
    obtain ⟨c0_, c1, c2⟩ := blkc3 D5.out
    go_wp2_with ((with_reducible refine gate_builtin (b := .copy) (xs := #[.tmp 37, .tmp 38]) (ts := #[30, 30]) rfl ?_); refine wl_copy rfl (.tmp 37) (.tmp 38) 30 30 rfl Try.underlying30 (by kernel_rfl) B t (M - t) (M - t) m c0 _ _ bs (l.take m) d T3.out rfl rfl D6.out (fun h => T2.out (by have := T3.out; omega)) (by have := HL.out; omega) (C_take D7.out m hml) ?_; intro w3 hH hG)
    have E3 := Lib.hid hH
    have E1 := Lib.hid (blk_grown D5.out hG (by simp; exact hgB))
    have E2 := Lib.hid (C_grown (C_take D7.out m hml) hG (HN.out (by omega)))
    have E4 := Lib.hid (D8.out.trans (Fr2.of_grown hG (.inr (.inl rfl))))
    clear hH hG D5 D6 D7 D8 c0_ c1 c2
    obtain ⟨c0_, c1, c2⟩ := blkc3 E1.out
    go_region_law (refine wl_copy_step (by rfl) (.tmp 43) (.tmp 46) 30 30 rfl Try.underlying30 (by kernel_rfl) B 0 M M (m - d) (c0 - d) _ _ (Kd.laid bs t d (l.take m)) ((l.take m).drop d) (m - d) (by omega) rfl rfl E3.out (fun _ => rfl) (by rw [Kd.laid_length _ _ _ _ (by have := T3.out; have := HL.out; omega) (by rw [List.length_take]; have := T3.out; omega)]; have := HL.out; omega) (C_skip E2.out d (by have := T3.out; omega) T4.out) ?_; intro w4 hH hG; have F3 := Lib.hid hH; have F1 := Lib.hid (blk_grown (w := w3.drew) E1.out hG (by simp; exact hgB)); have F4 := Lib.hid ((E4.out.trans (Fr2.of_below (below_drew (Below.refl _ _)))).trans (Fr2.of_grown hG (.inr (.inl rfl)))); clear hH hG E1 E2 E3 E4 c0_ c1 c2)
    all_goals
      obtain ⟨c0_, c1, c2⟩ := blkc3 F1.out
      obtain ⟨f0_, f1_, f2_⟩ := blkf3 F1.out
      go_wp2
      go_ret
      have hfin1 := blk_put F1.out 2 (.int .i64 ((q.length : Int) + (m : Int))) rfl
      have hfin2 := blk_far F3.out (show B ≠ (⟨g, 2, none⟩ : Addr).block from fun e => hgB e.symm) (.int .i64 ((q.length : Int) + (m : Int)))
      have hlm : (q ++ l.take m).length = q.length + m := by rw [List.length_append, List.length_take, Nat.min_eq_left hml]
      refine ⟨rfl, ⟨f, _, ?_, hfin2, ?_, hM, by omega, hf, ?_⟩, F4.out.trans (Fr2.set _ _ _)⟩
      · rw [hlm, Int.natCast_add]
        exact hfin1
      · rw [Kd.laid_length _ _ _ _ (by rw [Kd.laid_length _ _ _ _ (by have := T3.out; have := HL.out; omega) (by rw [List.length_take]; have := T3.out; omega)]; have := HL.out; have := T3.out; omega) (by rw [List.length_drop, List.length_take]; have := T3.out; omega), Kd.laid_length _ _ _ _ (by have := T3.out; have := HL.out; omega) (by rw [List.length_take]; have := T3.out; omega)]
        exact HL.out
      · have := put_list bs q l f M m d HL.out hf hml hqm (by omega) (by rw [← T1.out]; exact T3.out) HC.out
        rw [← T1.out] at this
        exact this
end Go.Proofs.Ytakiojmjalbfpaa.Ring
namespace Go.Proofs.Ytakiojmjalbfpaa.PRing
open Go.RowKit Go.Proofs.YtakiojmjalbfpaaW.PrintWords Go.Proofs.YtakiojmjalbfpaaW.PrintLast Go.Proofs.YtakiojmjalbfpaaW.PrintMore
attribute [local go_sem] max2_int min2_int max_two min_two max_three min_three max_four min_four plus_setCell_drewN plus_cell_same   -- for this text's walks alone
set_option linter.unusedVariables false
set_option linter.unusedSimpArgs false
def errW : Option Int → Value
 | none => .nilIface
 | some c => .iface 0 (.int .i64 c)
theorem errW_none : errW none = .nilIface := rfl
theorem errW_some (c : Int) : errW (some c) = .iface 0 (.int .i64 c) := rfl
theorem info5 : (Try.prog.info? 5).map (fun i => (i.zero, i.size, i.bytes)) = some (some (.int .u8 0), 1, 1) := by kernel_rfl
end Go.Proofs.Ytakiojmjalbfpaa.PRing
namespace Go.Proofs.Ytakiojmjalbfpaa.PRing
open Go.RowKit Go.Proofs.YtakiojmjalbfpaaW.PrintWords Go.Proofs.YtakiojmjalbfpaaW.PrintLast Go.Proofs.YtakiojmjalbfpaaW.PrintMore
attribute [local go_sem] max2_int min2_int max_two min_two max_three min_three max_four min_four plus_setCell_drewN plus_cell_same   -- for this text's walks alone
set_option linter.unusedVariables false
set_option linter.unusedSimpArgs false
def busbarlaw0_Within.f (a0 : Int) (a1 : Int) : Option (Int) := if a1 = 0 then (none) else (if (Int.tmod a0 a1) < 0 then (some (wrap64 ((Int.tmod a0 a1) + a1))) else (some (Int.tmod a0 a1)))
set_option maxHeartbeats 8000000 in
set_option maxRecDepth 100000 in
theorem busbarlaw0_Within.calls (a0 : Int) (a1 : Int) (r : Int) (w : World) (h : busbarlaw0_Within.f a0 a1 = some r) :
  Calls Try.prog 12 #[.int .i64 a0, .int .i64 a1] w fun e w' => e = .returned (.int .i64 r) ∧ Drawn0 w w' := by
 have H : (if a1 = 0 then (none) else (if (Int.tmod a0 a1) < 0 then (some (wrap64 ((Int.tmod a0 a1) + a1))) else (some (Int.tmod a0 a1)))) = some r := h
 clear h
 by_cases c3 : a1 = 0
 ·
  rw [if_pos c3] at H
  exact absurd H (by simp)
 ·
  rw [if_neg c3] at H
  have c3b0 : (a1 == 0) = false := beq_eq_false_iff_ne.mpr c3
  have c3b1 : (a1 != 0) = true := bne_iff_ne.mpr c3
  by_cases c4 : (Int.tmod a0 a1) < 0
  ·
   rw [if_pos c4] at H
   have c4b0 : decide ((Int.tmod a0 a1) < 0) = true := decide_eq_true c4
   clear c4
   obtain rfl := Option.some.inj H
   go_enter Try.func12, Try.ntmps12
   go_wp2
   go_ret
   exact ⟨by first | rfl | (simp; done) | (simp [*]; done), by repeat (first | exact Drawn0.refl _ | apply Drawn0.step)⟩
  ·
   rw [if_neg c4] at H
   have c4b0 : decide ((Int.tmod a0 a1) < 0) = false := decide_eq_false c4
   clear c4
   obtain rfl := Option.some.inj H
   go_enter Try.func12, Try.ntmps12
   go_wp2
   go_ret
   exact ⟨by first | rfl | (simp; done) | (simp [*]; done), by repeat (first | exact Drawn0.refl _ | apply Drawn0.step)⟩
end Go.Proofs.Ytakiojmjalbfpaa.PRing
namespace Go.Proofs.Ytakiojmjalbfpaa.PRing
open Go.RowKit Go.Proofs.YtakiojmjalbfpaaW.PrintWords Go.Proofs.YtakiojmjalbfpaaW.PrintLast Go.Proofs.YtakiojmjalbfpaaW.PrintMore
attribute [local go_sem] max2_int min2_int max_two min_two max_three min_three max_four min_four plus_setCell_drewN plus_cell_same   -- for this text's walks alone
set_option linter.unusedVariables false
set_option linter.unusedSimpArgs false
def busbarlaw0_Digit.f (a0 : Int) (a1 : Int) (a2 : Int) : Option (Int) := if a1 = 0 then (none) else ((busbarlaw0_Within.f (wrap64 (Int.tdiv a0 a1)) a2).bind fun t113 => (some t113))
set_option maxHeartbeats 8000000 in
set_option maxRecDepth 100000 in
theorem busbarlaw0_Digit.calls (a0 : Int) (a1 : Int) (a2 : Int) (r : Int) (w : World) (h : busbarlaw0_Digit.f a0 a1 a2 = some r) :
  Calls Try.prog 15 #[.int .i64 a0, .int .i64 a1, .int .i64 a2] w fun e w' => e = .returned (.int .i64 r) ∧ Drawn0 w w' := by
 have H : (if a1 = 0 then (none) else ((busbarlaw0_Within.f (wrap64 (Int.tdiv a0 a1)) a2).bind fun t113 => (some t113))) = some r := h
 clear h
 by_cases c4 : a1 = 0
 ·
  rw [if_pos c4] at H
  exact absurd H (by simp)
 ·
  rw [if_neg c4] at H
  have c4b0 : (a1 == 0) = false := beq_eq_false_iff_ne.mpr c4
  have c4b1 : (a1 != 0) = true := bne_iff_ne.mpr c4
  replace H := Option.bind_eq_some_iff.mp H
  obtain ⟨t113, A50, H⟩ := H
  replace H : (some t113) = some r := H
  have A5 := Aside0.mk A50
  clear A50
  obtain rfl := Option.some.inj H
  go_enter Try.func15, Try.ntmps15
  go_wp2_with (first | ((with_reducible refine gate_callee (f := 12) rfl ?_); refine goesL_ (some 11) rfl rfl Try.func12 (by kernel_rfl) rfl #[.int .i64 (wrap64 (Int.tdiv a0 a1)), .int .i64 a2] rfl (by (try simp only [List.map_toArray, List.map_cons, List.map_nil]); first | done | rfl | (simp only [List.length_drop, List.length_take]; rfl)) ?_; (with_reducible refine (busbarlaw0_Within.calls (wrap64 (Int.tdiv a0 a1)) a2 t113 _ A5.out).mono ?_); rintro e w' ⟨rfl, ⟨nd, rfl⟩⟩; refine ⟨_, rfl, ?_⟩))
  go_ret
  exact ⟨by first | rfl | (simp; done) | (simp [*]; done), by repeat (first | exact Drawn0.refl _ | apply Drawn0.step)⟩
end Go.Proofs.Ytakiojmjalbfpaa.PRing
namespace Go.Proofs.Ytakiojmjalbfpaa.PRing
open Go.RowKit Go.Proofs.YtakiojmjalbfpaaW.PrintWords Go.Proofs.YtakiojmjalbfpaaW.PrintLast Go.Proofs.YtakiojmjalbfpaaW.PrintMore
attribute [local go_sem] max2_int min2_int max_two min_two max_three min_three max_four min_four plus_setCell_drewN plus_cell_same   -- for this text's walks alone
set_option linter.unusedVariables false
set_option linter.unusedSimpArgs false
def busbarlaw9_some.l0 : Nat → Int → Int → List Int → Int → Option (List Int)
 | 0, _, _, _, _ => none
 | k + 1, x0, x1, x5, x6 => if x6 < x1 then (if x5.length < 140737488355328 then (busbarlaw9_some.l0 k x0 x1 (x5 ++ [(wrap64 (x0 + x6)) % 256]) (wrap64 (x6 + 1))) else (none)) else (some x5)
def busbarlaw9_some.f (k : Nat) (a0 : Int) (a1 : Int) : Option (List Int) := busbarlaw9_some.l0 k a0 a1 ([] : List Int) 0
theorem busbarlaw9_some.mono_l : ∀ k, (∀ y0 y1 y2 y3, LeO (busbarlaw9_some.l0 k y0 y1 y2 y3) (busbarlaw9_some.l0 (k + 1) y0 y1 y2 y3))
 | 0 => fun _ _ _ _ r h => by simp [busbarlaw9_some.l0] at h
 | k + 1 => by
  have ih0 := busbarlaw9_some.mono_l k
  ·
   intro y0 y1 y2 y3
   unfold busbarlaw9_some.l0
   repeat' first
   | (with_reducible exact ih0 _ _ _ _)
   | (with_reducible exact LeO.refl _)
   | (with_reducible exact LeO.none _)
   | (with_reducible refine LeO.ite ?_ ?_)
   | (with_reducible refine LeO.bind ?_ (fun _ => ?_))
   | exact ih0 _ _ _ _
   | exact LeO.none _
   | refine LeO.ite ?_ ?_
   | refine LeO.bind ?_ (fun _ => ?_)
theorem busbarlaw9_some.mono : ∀ a0 a1 k, LeO (busbarlaw9_some.f k a0 a1) (busbarlaw9_some.f (k + 1) a0 a1) := by
 intro a0 a1 k
 have ih0 := busbarlaw9_some.mono_l k
 unfold busbarlaw9_some.f
 repeat' first
   | (with_reducible exact ih0 _ _ _ _)
   | (with_reducible exact LeO.refl _)
   | (with_reducible exact LeO.none _)
   | (with_reducible refine LeO.ite ?_ ?_)
   | (with_reducible refine LeO.bind ?_ (fun _ => ?_))
   | exact ih0 _ _ _ _
   | exact LeO.none _
   | refine LeO.ite ?_ ?_
   | refine LeO.bind ?_ (fun _ => ?_)
set_option maxHeartbeats 8000000 in
set_option maxRecDepth 100000 in
theorem busbarlaw9_some.calls (k : Nat) (a0 : Int) (a1 : Int) (r : List Int) (w : World) (h : busbarlaw9_some.f k a0 a1 = some r) :
  Calls Try.prog 16 #[.int .i64 a0, .int .i64 a1] w fun e w' => ∃ v0_ : Value, e = .returned (v0_) ∧ Kd.R (Kd.int .u8) 5 w' w.heap.size (fun _ => True) v0_ r ∧ Below w.heap.size w w' := by
 have HB := Aside0.mk (Below.refl w.heap.size w)
 have H : (busbarlaw9_some.l0 k a0 a1 ([] : List Int) 0) = some r := h
 clear h
 have H' := Aside0.mk H
 clear H
 go_enter Try.func16, Try.ntmps16
 go_wp2
 go_loopg [5, 6] k (fun kq v5 v6 w' => ∃ (x5_1 : List Int) (x6_1 : Int), v6 = .int .i64 x6_1 ∧ Aside0 (busbarlaw9_some.l0 kq a0 a1 x5_1 x6_1 = some r) ∧ Aside0 (kq ≤ k) ∧ Aside0 (Kd.R (Kd.int .u8) 5 w' w.heap.size (fun _ => True) v5 x5_1) ∧ Aside0 (Below w.heap.size w w'))
 case atStart => exact ⟨(([] : List Int)), (0), (by first | rfl | (simp; done) | (simp [*]; done)), H', ⟨Nat.le_refl _⟩, ⟨by first | exact Kd.R_nil _ _ _ _ _ | exact Kd.N_nil _ _ _ _ _ | exact Kd.V_nil _ _ _ _ _ | exact Kd.Q_nil _ _ _ _ _ | exact Kd.S_nil _ _ _ _ _⟩, ⟨by repeat (first | (with_reducible first | exact HB.out | apply below_alloc | apply pw_below_drewN | apply below_drew1) | exact HB.out)⟩⟩
 case round =>
  clear H'
  try clear c1
  try clear p2
  obtain ⟨x5_1, x6_1, rfl, HA, HK1, HO_5, HB⟩ := hrel
  cases gk with
  | zero => exact absurd HA.out (by simp [busbarlaw9_some.l0])
  | succ k1 =>
   have H := HA.out
   clear HA
   simp only [busbarlaw9_some.l0] at H
   by_cases c3 : x6_1 < a1
   ·
    rw [if_pos c3] at H
    have c3b0 : decide (x6_1 < a1) = true := decide_eq_true c3
    clear c3
    by_cases c4 : x5_1.length < 140737488355328
    ·
     rw [if_pos c4] at H
     have LMc4 := Aside0.mk c4
     clear c4
     obtain ⟨y114, hy114⟩ : ∃ y_ : List Int, y_ = (x5_1 ++ [(wrap64 (a0 + x6_1)) % 256]) := ⟨_, rfl⟩
     replace H : (busbarlaw9_some.l0 k1 a0 a1 y114 (wrap64 (x6_1 + 1))) = some r := by first | (rw [hy114]; with_reducible exact H) | (have H2_ := (Option.bind_some _ _).symm.trans H; rw [hy114]; with_reducible exact H2_) | (have H2_ := (Option.bind_some _ _).symm.trans H; with_reducible exact H2_) | with_reducible exact H | (rw [hy114]; exact H) | exact H
     have Ny114 := Aside0.mk hy114
     clear hy114
     have H' := Aside0.mk H
     clear H
     go_wp2_with (first | ((with_reducible refine gate_builtin (b := .append) (xs := #[.tmp 12, .tmp 17]) rfl ?_); at_builtin; refine Kd.R_append (Kd.int .u8) (w0 := w) w.heap.size rfl (.tmp 12) (.tmp 17) 30 5 (.int .u8 0) 1 rfl Try.underlying30 info5 rfl (by decide) (by omega) u5 x5_1 ((wrap64 (a0 + x6_1)) % 256) [.int .u8 ((wrap64 (a0 + x6_1)) % 256)] (fun _ => True) (fun _ => False) rfl rfl ?aP (fun _ hk => hk.elim) ?aF ?aO ?aB ?aS ?aL ?_; (case aP => exact rfl); (case aB => exact (by repeat (first | (with_reducible first | exact HB.out | apply below_alloc | apply pw_below_drewN | apply below_drew1) | exact HB.out))); (case aF => exact (fun _ _ => trivial)); (case aO => exact (by (with_reducible repeat (first | apply Kd.R_alloc | apply Kd.R_drewN | apply Kd.R_drew)); exact HO_5.out)); (case aS => exact (below_size (by repeat (first | (with_reducible first | exact HB.out | apply below_alloc | apply pw_below_drewN | apply below_drew1) | exact HB.out)))); (case aL => have := LMc4.out; omega); intro v115 w5 ho hb hg hat; rw [← Ny114.out] at ho; have n0_ := Aside0.mk (hb); have n1_ := Aside0.mk (ho); clear HB; clear HO_5; have HB := n0_; have HO116 := n1_; clear n0_ n1_; clear ho hb hg hat))
     go_roundg k1
     case measure => have := HK1.out; omega
     case rel => exact ⟨(y114), (wrap64 (x6_1 + 1)), (by first | rfl | (simp; done) | (simp [*]; done)), H', ⟨by have := HK1.out; omega⟩, ⟨by (with_reducible repeat (first | apply Kd.R_alloc | apply Kd.R_drewN | apply Kd.R_drew)); exact HO116.out⟩, ⟨by repeat (first | (with_reducible first | exact HB.out | apply below_alloc | apply pw_below_drewN | apply below_drew1) | exact HB.out)⟩⟩
    ·
     rw [if_neg c4] at H
     exact absurd H (by simp)
   ·
    rw [if_neg c3] at H
    have c3b0 : decide (x6_1 < a1) = false := decide_eq_false c3
    clear c3
    obtain rfl := Option.some.inj H
    go_wp2
    go_ret
    exact ⟨_, by first | rfl | (simp [errW_none, errW_some] <;> rfl) | (simp [*, errW_none, errW_some] <;> rfl), by (with_reducible repeat (first | apply Kd.R_alloc | apply Kd.R_drewN | apply Kd.R_drew)); exact HO_5.out, by repeat (first | (with_reducible first | exact HB.out | apply below_alloc | apply pw_below_drewN | apply below_drew1) | exact HB.out)⟩
end Go.Proofs.Ytakiojmjalbfpaa.PRing
set_option linter.unusedVariables false
set_option linter.unusedSimpArgs false
namespace Go.Proofs.Ytakiojmjalbfpaa.Ring
open Go.RowKit Go.Proofs.YtakiojmjalbfpaaW.PrintWords Go.Proofs.YtakiojmjalbfpaaW.PrintLast Go.Proofs.YtakiojmjalbfpaaW.PrintMore Go.Proofs.Ytakiojmjalbfpaa.PRing
attribute [local go_sem] plus_setCell_drewN plus_cell_same
end Go.Proofs.Ytakiojmjalbfpaa.Ring
set_option linter.unusedVariables false
set_option linter.unusedSimpArgs false
namespace Go.Proofs.Ytakiojmjalbfpaa.Ring
open Go.RowKit Go.Proofs.YtakiojmjalbfpaaW.PrintWords Go.Proofs.YtakiojmjalbfpaaW.PrintLast Go.Proofs.YtakiojmjalbfpaaW.PrintMore Go.Proofs.Ytakiojmjalbfpaa.PRing
attribute [local go_sem] plus_setCell_drewN plus_cell_same
theorem wrap64_in {x : Int} (h1 : -9223372036854775808 ≤ x) (h2 : x < 9223372036854775808) : wrap64 x = x := by unfold wrap64; omega
theorem within_f (a n : Int) (hn : 0 < n) (hn2 : n < 4611686018427387904) : busbarlaw0_Within.f a n = some (a % n) := by
  unfold busbarlaw0_Within.f
  rw [if_neg (by omega)]
  by_cases h : Int.tmod a n < 0
  · rw [if_pos h]
    congr 1
    have h2 := Int.tmod_lt_of_pos a hn
    have h3 : a % n = Int.tmod a n + n := by
      rw [Int.tmod_eq_emod] at h ⊢
      split at h
      · have := Int.emod_nonneg a (show n ≠ 0 by omega); omega
      · rename_i hc
        rw [if_neg hc]
        omega
    rw [wrap64_in (by have := Int.emod_nonneg a (show n ≠ 0 by omega); omega) (by have := Int.emod_lt_of_pos a hn; omega), h3]
  · rw [if_neg h]
    congr 1
    rw [Int.tmod_eq_emod] at h ⊢
    split at h
    · rename_i hc; rw [if_pos hc]; omega
    · exfalso
      have := Int.emod_lt_of_pos a hn
      omega
theorem within_calls (a n : Int) (hn : 0 < n) (hn2 : n < 4611686018427387904) (w : World) : Calls Try.prog 12 #[.int .i64 a, .int .i64 n] w fun e w' => e = .returned (.int .i64 (a % n)) ∧ ∃ nd, w' = w.drewN nd := by
  refine (busbarlaw0_Within.calls a n (a % n) w (within_f a n hn hn2)).mono ?_
  rintro e w1 ⟨rfl, hd⟩
  exact ⟨rfl, hd.out⟩
end Go.Proofs.Ytakiojmjalbfpaa.Ring
set_option linter.unusedVariables false
set_option linter.unusedSimpArgs false
namespace Go.Proofs.Ytakiojmjalbfpaa.Ring
open Go.RowKit Go.Proofs.YtakiojmjalbfpaaW.PrintWords Go.Proofs.YtakiojmjalbfpaaW.PrintLast Go.Proofs.YtakiojmjalbfpaaW.PrintMore Go.Proofs.Ytakiojmjalbfpaa.PRing
attribute [local go_sem] max2_int min2_int max_two min_two plus_setCell_drewN plus_cell_same
structure St (w0 : World) (g B M : Nat) (q : List Int) (w : World) : Prop where
  r : RingW w g B M q
  b : Below w0.heap.size w0 w
  g0 : w0.heap.size ≤ g
  B0 : w0.heap.size ≤ B
theorem St.below {w0 w w1 : World} {g B M : Nat} {q : List Int} (h : St w0 g B M q w) (hb : Below w.heap.size w w1) : St w0 g B M q w1 := ⟨h.r.below hb, below_then h.b h.b.size hb, h.g0, h.B0⟩
theorem St.next {w0 w w1 : World} {g B M : Nat} {q q1 : List Int} (h : St w0 g B M q w) (hr : RingW w1 g B M q1) (hf : Fr2 g B w w1) : St w0 g B M q1 w1 := ⟨hr, hf.below h.b h.b.size h.g0 h.B0, h.g0, h.B0⟩
theorem within_b (a n : Int) (hn : 0 < n) (hn2 : n < 4611686018427387904) (w : World) : Calls Try.prog 12 #[.int .i64 a, .int .i64 n] w fun e w' => e = .returned (.int .i64 (a % n)) ∧ Below w.heap.size w w' := by
  refine (within_calls a n hn hn2 w).mono ?_
  rintro e w1 ⟨rfl, nd, rfl⟩
  exact ⟨rfl, pw_below_drewN (Below.refl _ _) nd⟩
theorem len_b (w : World) (g B M : Nat) (q : List Int) (h : RingW w g B M q) : Calls Try.prog 25 #[.pointer (some ⟨g, 0, none⟩)] w fun e w' => e = .returned (.int .i64 (q.length : Int)) ∧ Below w.heap.size w w' := by
  refine (ring_Len w g B M q h).mono ?_
  rintro e w1 ⟨rfl, nd, rfl⟩
  exact ⟨rfl, pw_below_drewN (Below.refl _ _) nd⟩
theorem digit_b (a d n : Int) (hd : d ≠ 0) (hn : 0 < n) (hn2 : n < 4611686018427387904) (w : World) : Calls Try.prog 15 #[.int .i64 a, .int .i64 d, .int .i64 n] w fun e w' => e = .returned (.int .i64 (wrap64 (Int.tdiv a d) % n)) ∧ Below w.heap.size w w' := by
  refine (busbarlaw0_Digit.calls a d n (wrap64 (Int.tdiv a d) % n) w ?_).mono ?_
  · unfold busbarlaw0_Digit.f
    rw [if_neg hd, within_f _ n hn hn2, Option.bind_some]
  · rintro e w1 ⟨rfl, hd⟩
    obtain ⟨nd, rfl⟩ := hd.out
    exact ⟨rfl, pw_below_drewN (Below.refl _ _) nd⟩
theorem ring_Put_n (w : World) (g B M : Nat) (q : List Int) (h : RingW w g B M q) (A0 : Option Addr) (n c0 : Nat) (l : List Int) (hn : n = l.length) (hr : Kd.C (Kd.int .u8) w A0 n l) (hc0 : n ≤ c0) (hne : 0 < n → ∀ a, A0 = some a → a.block ≠ B) (m : Nat) (hm : m = min n (M - q.length)) :
    Calls Try.prog 18 #[.pointer (some ⟨g, 0, none⟩), .slice A0 n c0] w fun e w' => e = .returned (.int .i64 (m : Int)) ∧ RingW w' g B M (q ++ l.take m) ∧ Fr2 g B w w' := by
  subst hn
  exact ring_Put w g B M q h A0 c0 l hr hc0 hne m hm
theorem St.grown {w0 w w1 : World} {g B M : Nat} {q : List Int} (h : St w0 g B M q w) {r : Option Nat} (hg : w.grownBy w1 r) (hr : ∀ k, r = some k → k ≠ g ∧ k ≠ B ∧ w0.heap.size ≤ k) : St w0 g B M q w1 :=
  ⟨h.r.grown hg (fun e => (hr g e.symm).1 rfl) (fun e => (hr B e.symm).2.1 rfl), h.b.grown hg h.b.size (fun k hk => (hr k hk).2.2), h.g0, h.B0⟩
theorem C_lt {k : IntKind} {w : World} {A : Option Addr} {n : Nat} {l : List Int} (h : Kd.C (Kd.int k) w A n l) (h0 : 0 < n) : ∀ a, A = some a → a.block < w.heap.size := by
  intro a ha
  obtain ⟨ad, e, hx⟩ := Kd.at_int h 0 (by omega) (by omega)
  rw [ha] at e
  injection e with e
  subst e
  have := World.block_lt_of_cell? _ _ hx
  have e1 : (a.add (0 : Int).toNat).block = a.block := by unfold Addr.add; split <;> rfl
  rwa [e1] at this
end Go.Proofs.Ytakiojmjalbfpaa.Ring
