/- Words and walks for FlowPlays (made of the session's own texts; each part by itself). -/
import Derived.StillTailTactics
import Derived.Test.YtakiojmjalbfpaaZFlowPlays6
set_option linter.unusedVariables false
set_option linter.unusedSimpArgs false
namespace Go.Proofs.Ytakiojmjalbfpaa.Ring
open Go.RowKit Go.Proofs.YtakiojmjalbfpaaW.PrintWords Go.Proofs.YtakiojmjalbfpaaW.PrintLast Go.Proofs.YtakiojmjalbfpaaW.PrintMore
attribute [local go_sem] plus_setCell_drewN plus_cell_same
structure RefW (base : Nat) (ok : Nat → Prop) (w : World) (g M : Nat) (q : List Int) : Prop where
  ex : ∃ A c, w.heap[g]? = some (.cells #[.int .i64 (M : Int), .slice A q.length c] 38 (0, 0)) ∧ Kd.R (Kd.int .u8) 5 w base ok (.slice A q.length c) q ∧ q.length ≤ M ∧ M ≤ 65536
section
variable {P : Program} {ops : Array Oper} {rest : List Oper} {o : Oper} {a : Act} {Q : Exit → Act → World → Prop} {Kc : Act → World → Prop}
end
theorem new_ref (base : Nat) (ok : Nat → Prop) (w : World) (m : Nat) (hm : m ≤ 65536) : RefW base ok (w.alloc (.cells #[.int .i64 (m : Int), .slice none 0 0] 38)) w.heap.size m [] :=
  ⟨none, 0, blk_new w _, Kd.R_nil _ _ _ _ _, by simp, hm⟩
theorem ref_New_mid (m : Nat) (h2 : m ≤ 65536) (w : World) :
    Calls Try.prog 14 #[.int .i64 (m : Int)] w fun e w' => e = .returned (.pointer (some ⟨w.heap.size, 0, none⟩)) ∧ (∀ base ok, RefW base ok w' w.heap.size m []) ∧ Below w.heap.size w w' := by
  have hu38 := Try.underlying38
  go_enter Try.func14, Try.ntmps14
  go_wp2_with (fail)
  go_ret
  exact ⟨rfl, fun base ok => new_ref base ok w m h2, (Below.refl _ _).alloc (Nat.le_refl _) _⟩
theorem ref_New_low (n : Int) (h : n < 0) (w : World) :
    Calls Try.prog 14 #[.int .i64 n] w fun e w' => e = .returned (.pointer (some ⟨w.heap.size, 0, none⟩)) ∧ (∀ base ok, RefW base ok w' w.heap.size 0 []) ∧ Below w.heap.size w w' := by
  have hu38 := Try.underlying38
  go_enter Try.func14, Try.ntmps14
  go_wp2_with (fail)
  go_ret
  exact ⟨rfl, fun base ok => new_ref base ok w 0 (by omega), (Below.refl _ _).alloc (Nat.le_refl _) _⟩
set_option maxRecDepth 100000 in
theorem ref_New_high (n : Int) (M : Nat) (hM : M = 65536) (h : 65536 < n) (w : World) :
    Calls Try.prog 14 #[.int .i64 n] w fun e w' => e = .returned (.pointer (some ⟨w.heap.size, 0, none⟩)) ∧ (∀ base ok, RefW base ok w' w.heap.size M []) ∧ Below w.heap.size w w' := by
  have hu38 := Try.underlying38
  have HM := Lib.hid hM
  clear hM
  go_enter Try.func14, Try.ntmps14
  go_wp2_with (fail)
  go_ret
  have e : (65536 : Int) = (M : Int) := by have := HM.out; omega
  rw [e]
  exact ⟨rfl, fun base ok => new_ref base ok w M (by have := HM.out; omega), (Below.refl _ _).alloc (Nat.le_refl _) _⟩
theorem ref_New (n : Int) (w : World) :
    Calls Try.prog 14 #[.int .i64 n] w fun e w' => e = .returned (.pointer (some ⟨w.heap.size, 0, none⟩)) ∧ (∀ base ok, RefW base ok w' w.heap.size (min (max n 0) 65536).toNat []) ∧ Below w.heap.size w w' := by
  by_cases h : n < 0
  · rw [show (min (max n 0) 65536).toNat = 0 by omega]
    exact ref_New_low n h w
  · by_cases h2 : 65536 < n
    · rw [show (min (max n 0) 65536).toNat = 65536 by omega]
      exact ref_New_high n 65536 rfl h2 w
    · obtain ⟨m, rfl⟩ := Int.eq_ofNat_of_zero_le (show 0 ≤ n by omega)
      rw [show (min (max (m : Int) 0) 65536).toNat = m by omega]
      exact ref_New_mid m (by omega) w
attribute [local go_sem] max2_int min2_int max_two min_two
set_option maxRecDepth 100000 in
theorem ref_Look (base : Nat) (ok : Nat → Prop) (w : World) (g M : Nat) (q : List Int) (h : RefW base ok w g M q) (n : Int) (k : Nat) (hk : k = (q.take n.toNat).length) :
    Calls Try.prog 22 #[.pointer (some ⟨g, 0, none⟩), .int .i64 n] w fun e w' => ∃ A c, e = .returned (.slice A k c) ∧ Kd.R (Kd.int .u8) 5 w' w.heap.size (fun _ => True) (.slice A k c) (q.take n.toNat) ∧ Below w.heap.size w w' := by
  have hu38 := Try.underlying38
  have hu30 := Try.underlying30
  obtain ⟨A, c, hg, hR, hq, hM⟩ := h.ex
  obtain ⟨c0, c1⟩ := blkc2 hg
  have hC := (Kd.R_reads' hR).2.2
  have hqc := (Kd.R_reads' hR).2.1
  rw [List.length_take] at hk
  have hch := cut_high A k q.length c (by omega)
  have hmn : min (max n 0) (q.length : Int) = (k : Int) := by omega
  have e1 : (if n < 0 then (0 : Int) else n) = max n 0 := by split <;> omega
  obtain ⟨n1, hn1⟩ : ∃ n1 : Int, n1 = max n 0 := ⟨_, rfl⟩
  rw [← hn1] at e1 hmn
  have e2 : (if (q.length : Int) < n1 then (q.length : Int) else n1) = (k : Int) := by split <;> omega
  have hqt : q.take n.toNat = q.take k := by rw [hk, List.take_eq_take_min]
  have hkq : k ≤ q.length := by omega
  have hkl : (q.take k).length = k := by rw [List.length_take]; omega
  have N3 := Lib.hid hqt
  have N4 := Lib.hid (C_take hC k hkq)
  have N5 := Lib.hid hkl
  clear hn1 hmn hqt hk hC hR hg h hkl
  go_enter Try.func22, Try.ntmps22
  go_wp2_with (fail)
  go_still_tail 13, (by kernel_rfl)
  change wpList _ _ _ _ _ w.drew
  go_wp2_with ((with_reducible refine gate_builtin (b := .append) (xs := #[.const (.slice none 0 0), .tmp 17]) (ts := #[30, 30]) rfl ?_); refine Kd.R_append_rows (Kd.int .u8) (w0 := w) w.heap.size rfl (.const (.slice none 0 0)) (.tmp 17) 30 5 (.int .u8 0) 1 rfl Try.underlying30 (by kernel_rfl) rfl (by decide) (by omega) _ [] (q.take k) _ _ _ (fun _ => True) (fun _ => False) rfl rfl (Kd.R_nil _ _ _ _ _) (Kd.C_drew N4.out) (fun _ _ h => h) (fun _ h => h.elim) (fun _ _ => trivial) (below_drew (Below.refl _ _)) (Nat.le_refl _) (by simp; omega) ?_; intro v1 w1 hO hb hg hnew)
  go_ret
  rw [List.nil_append] at hO
  obtain ⟨A', c', rfl⟩ := Kd.R_slice hO
  rw [N5.out] at hO
  rw [N3.out]
  exact ⟨A', c', by rw [N5.out]; rfl, hO, hb⟩
theorem RefW.below {base : Nat} {ok : Nat → Prop} {w w1 : World} {g M : Nat} {q : List Int} (h : RefW base ok w g M q) (hb : Below w.heap.size w w1) : RefW base ok w1 g M q := by
  obtain ⟨A, c, hg, hR, h2⟩ := h.ex
  exact ⟨A, c, blk_below hg hb, Kd.R_below hR hb, h2⟩
set_option maxRecDepth 100000 in
set_option maxHeartbeats 1000000 in
theorem ref_Put (base : Nat) (ok : Nat → Prop) (w w0 : World) (g M : Nat) (q : List Int) (h : RefW base ok w g M q) (hbase : base ≤ w.heap.size) (hok : ∀ k, ok k → k ≠ g) (hfr : ∀ k, w.heap.size ≤ k → ok k) (A0 : Option Addr) (n c0 : Nat) (l : List Int) (hn : n = l.length) (hl : Kd.C (Kd.int .u8) w A0 n l) (hc0 : n ≤ c0) (m : Nat) (hm : m = min n (M - q.length)) :
    Calls Try.prog 19 #[.pointer (some ⟨g, 0, none⟩), .slice A0 n c0] w fun e w' => e = .returned (.int .i64 (m : Int)) ∧ RefW base ok w' g M (q ++ l.take m) ∧ Fr2 g g w w' := by
  have hu38 := Try.underlying38
  have hu30 := Try.underlying30
  obtain ⟨A, c, hg, hR, hq, hM⟩ := h.ex
  obtain ⟨c0_, c1⟩ := blkc2 hg
  have hl9 : n ≤ 9223372036854775807 := by have := hl.2.1; omega
  have e2 : (if (M : Int) - q.length < n then (M : Int) - q.length else (n : Int)) = (m : Int) := by split <;> omega
  have hmn : m ≤ n := by omega
  have hqm : q.length + m ≤ M := by omega
  have hch := cut_high A0 m n c0 (by omega)
  have N1 := Lib.hid hg
  have N2 := Lib.hid hR
  have N3 := Lib.hid (C_take hl m hmn)
  have N4 := Lib.hid hok
  have N5 := Lib.hid hfr
  have N6 := Lib.hid hn
  have hlen : (l.take m).length = m := by rw [List.length_take]; omega
  have N7 := Lib.hid hlen
  obtain ⟨Q2, hQ2⟩ : ∃ Q2, Q2 = q ++ l.take m := ⟨_, rfl⟩
  have N8 := Lib.hid hQ2
  clear hQ2
  clear h hg hR hl hok hfr hn hm hlen
  go_enter Try.func19, Try.ntmps19
  go_wp2_with (fail)
  go_quiet (fail)
  go_wp2
  have D1 := Lib.hid (blk_drewN N1.out nq)
  have D2 := Lib.hid (Kd.R_drewN N2.out nq)
  have D3 := Lib.hid (Kd.C_drewN N3.out nq)
  have D4 : Hid (Fr2 g g w (w.drewN nq)) := Fr2.of_below (pw_below_drewN (Below.refl _ _) _)
  have D5 : Hid (w.heap.size ≤ (w.drewN nq).heap.size) := Nat.le_refl _
  generalize w.drewN nq = w1 at *
  clear c0_ c1
  obtain ⟨c0_, c1⟩ := blkc2 D1.out
  obtain ⟨f0, f1⟩ := blkf2 D1.out
  go_region_law (first | (refine Kd.R_append_rows_step (Kd.int .u8) (w0 := w1) w1.heap.size (by rfl) (.const (.slice none 0 0)) (.tmp 23) 30 5 (.int .u8 0) 1 rfl Try.underlying30 (by kernel_rfl) rfl (by decide) (by omega) (.slice none 0 0) [] q _ _ _ ok (fun _ => False) rfl rfl (Kd.R_nil _ _ _ _ _) (Kd.C_drew (Kd.R_reads' D2.out).2.2) (fun _ _ h => h) (fun _ h => h.elim) (fun k hk => N5.out k (by have := D5.out; simp at hk; omega)) (below_drew (Below.refl _ _)) (Nat.le_refl _) (by simp; omega) ?_; intro v2 w2 hO hb hg_ hnew; have O2 := Lib.hid hO; have B2 := Lib.hid hb; have E2 := Lib.hid hnew; clear hO hb hg_ hnew) | (refine Kd.R_append_rows_step (Kd.int .u8) (w0 := w1) w1.heap.size (by rfl) (.tmp 24) (.tmp 27) 30 5 (.int .u8 0) 1 rfl Try.underlying30 (by kernel_rfl) rfl (by decide) (by omega) v2 ([] ++ q) (l.take m) _ _ _ ok (fun _ => False) rfl rfl O2.out (Kd.C_below D3.out B2.out) (fun _ _ h => h) (fun _ h => h.elim) (fun k hk => N5.out k (by have := D5.out; have := B2.out.size; omega)) B2.out B2.out.size (by simp; omega) ?_; intro v3 w3 hO hb hg_ hnew; rw [List.nil_append, ← N8.out] at hO; obtain ⟨A3, c3, rfl⟩ := Kd.R_slice hO; have O3 := Lib.hid hO; have B3 := Lib.hid hb; have E1 := Lib.hid (blk_below D1.out hb); clear hO hb hg_ hnew c0_ c1 f0 f1; obtain ⟨c0_, c1⟩ := blkc2 E1.out; obtain ⟨f0, f1⟩ := blkf2 E1.out))
  all_goals
    go_wp2
    go_ret
    have hfin1 := blk_put E1.out 1 (.slice A3 Q2.length c3) rfl
    have hfin2 := Kd.R_far (Kd.R_mono O3.out (fun k hk => And.intro hk (N4.out k hk))) (p := ⟨g, 1, none⟩) (fun k hk => hk.2) (.slice A3 Q2.length c3)
    have hQl : Q2.length = q.length + m := by rw [N8.out, List.length_append, N7.out]
    refine ⟨rfl, ⟨A3, c3, ?_, ?_, ?_, hM⟩, (D4.out.trans (Fr2.of_below B3.out)).trans (Fr2.set _ _ _)⟩
    · rw [← N8.out]
      exact hfin1
    · rw [← N8.out]
      exact Kd.R_mono (Kd.R_lower hfin2 (Nat.le_trans hbase D5.out)) (fun k hk => hk.1)
    · rw [← N8.out]
      omega
set_option maxRecDepth 100000 in
set_option maxHeartbeats 1000000 in
theorem ref_Take (base : Nat) (ok : Nat → Prop) (w : World) (g M : Nat) (q : List Int) (h : RefW base ok w g M q) (hbase : base ≤ w.heap.size) (hok : ∀ k, ok k → k ≠ g) (hfr : ∀ k, w.heap.size ≤ k → ok k) (n : Int) (k : Nat) (hk : k = (q.take n.toNat).length) :
    Calls Try.prog 24 #[.pointer (some ⟨g, 0, none⟩), .int .i64 n] w fun e w' => ∃ A c, e = .returned (.slice A k c) ∧ Kd.R (Kd.int .u8) 5 w' w.heap.size (fun _ => True) (.slice A k c) (q.take n.toNat) ∧ RefW base ok w' g M (q.drop n.toNat) ∧ Fr2 g g w w' := by
  have hu38 := Try.underlying38
  have hu30 := Try.underlying30
  have hkq : k ≤ q.length := by rw [hk, List.length_take]; omega
  have N1 := Lib.hid h
  have N2 := Lib.hid hk
  have N4 := Lib.hid hok
  have N5 := Lib.hid hfr
  have hqd : q.drop k = q.drop n.toNat := by
    rw [List.length_take] at hk
    rcases Nat.lt_or_ge n.toNat q.length with h0 | h0
    · rw [show k = n.toNat by omega]
    · rw [List.drop_eq_nil_of_le (by omega), List.drop_eq_nil_of_le (by omega)]
  have hgl : g < w.heap.size := by
    obtain ⟨A, c, hg, _⟩ := h.ex
    exact blk_lt hg
  have N3 := Lib.hid hqd
  clear h hk hok hfr hqd
  go_enter Try.func24, Try.ntmps24
  go_wp2_with (fail)
  refine (ref_Look base ok w g M q N1.out n k N2.out).mono ?_
  rintro e w1 ⟨Ao, co, rfl, hR, hb⟩
  obtain ⟨A, c, hg, hRq, hq, hM⟩ := (N1.out.below hb).ex
  obtain ⟨A1, hA1, hsl⟩ := cut_low_any A k q.length c hkq (Kd.R_reads' hRq).2.1
  have hC := C_skip (Kd.R_reads' hRq).2.2 k hkq hA1
  obtain ⟨c0_, c1⟩ := blkc2 hg
  obtain ⟨f0_, f1⟩ := blkf2 hg
  have D1 := Lib.hid hg
  have D2 := Lib.hid hRq
  have D3 := Lib.hid hR
  have D4 := Lib.hid hb
  have D5 := Lib.hid hC
  have D6 := Lib.hid hb.size
  obtain ⟨Q2, hQ2⟩ : ∃ Q2, Q2 = q.drop k := ⟨_, rfl⟩
  have N8 := Lib.hid hQ2
  have hQl : Q2.length = q.length - k := by rw [hQ2, List.length_drop]
  have N9 := Lib.hid hQl
  clear hg hRq hR hb hC hA1 hQ2 hQl
  go_wp2_with ((with_reducible refine gate_builtin (b := .append) (xs := #[.const (.slice none 0 0), .tmp 16]) (ts := #[30, 30]) rfl ?_); refine Kd.R_append_rows (Kd.int .u8) (w0 := w1) w1.heap.size rfl (.const (.slice none 0 0)) (.tmp 16) 30 5 (.int .u8 0) 1 rfl Try.underlying30 (by kernel_rfl) rfl (by decide) (by omega) _ [] (q.drop k) _ _ _ ok (fun _ => False) rfl rfl (Kd.R_nil _ _ _ _ _) D5.out (fun _ _ h => h) (fun _ h => h.elim) (fun k_ hk => N5.out k_ (by have := D6.out; omega)) (Below.refl _ _) (Nat.le_refl _) (by simp; omega) ?_; intro v2 w2 hO hb hg_ hnew; rw [List.nil_append, ← N8.out] at hO; obtain ⟨A3, c3, rfl⟩ := Kd.R_slice hO; have O3 := Lib.hid hO; have B3 := Lib.hid hb; have E1 := Lib.hid (blk_below D1.out hb); have E2 := Lib.hid (Kd.R_below D3.out hb); clear hO hb hg_ hnew c0_ c1 f0_ f1; obtain ⟨c0_, c1⟩ := blkc2 E1.out; obtain ⟨f0, f1⟩ := blkf2 E1.out)
  go_ret
  have hfin1 := blk_put E1.out 1 (.slice A3 Q2.length c3) rfl
  have hfin2 := Kd.R_far (Kd.R_mono O3.out (fun k hk => And.intro hk (N4.out k hk))) (p := ⟨g, 1, none⟩) (fun k hk => hk.2) (.slice A3 Q2.length c3)
  have hfin3 := Kd.R_far (Kd.R_bound E2.out) (p := ⟨g, 1, none⟩) (fun k_ h_ => by have := h_.2.1; show k_ ≠ g; omega) (.slice A3 Q2.length c3)
  refine ⟨_, _, rfl, Kd.R_mono hfin3 (fun _ _ => trivial), ⟨A3, c3, ?_, ?_, ?_, hM⟩, ((Fr2.of_below D4.out).trans (Fr2.of_below B3.out)).trans (Fr2.set _ _ _)⟩
  · rw [← N3.out, ← N8.out]
    exact hfin1
  · rw [← N3.out, ← N8.out]
    exact Kd.R_mono (Kd.R_lower hfin2 (Nat.le_trans hbase D6.out)) (fun k hk => hk.1)
  · rw [← N3.out, ← N8.out]
    have := N9.out
    omega
end Go.Proofs.Ytakiojmjalbfpaa.Ring
namespace Go.Proofs.Ytakiojmjalbfpaa.PRing
open Go.RowKit Go.Proofs.YtakiojmjalbfpaaW.PrintWords Go.Proofs.YtakiojmjalbfpaaW.PrintLast Go.Proofs.YtakiojmjalbfpaaW.PrintMore
attribute [local go_sem] max2_int min2_int max_two min_two max_three min_three max_four min_four plus_setCell_drewN plus_cell_same   -- for this text's walks alone
set_option linter.unusedVariables false
set_option linter.unusedSimpArgs false
def busbarlaw0_LentBytes.l0 : Nat → List Int → List Int → Int → Option (List Int)
 | 0, _, _, _ => none
 | k + 1, x0, x3, x4 => if x4 < (x3.length : Int) then (if 0 ≤ x4 then (busbarlaw0_LentBytes.l0 k x0 (x3.set (x4 : Int).toNat 165) (wrap64 (x4 + 1))) else (none)) else (if 0 ≤ (x0.length : Int) then (if (x0.length : Int) ≤ (x3.length : Int) then (if x3.drop ((x0.length : Int) : Int).toNat = Kd.marks (Kd.int .u8) then (some (x3.take ((x0.length : Int) : Int).toNat)) else (none)) else (none)) else (none))
def busbarlaw0_LentBytes.f (k : Nat) (l0 : List Int) : Option (List Int) := if 0 ≤ (wrap64 ((l0.length : Int) + 3)) then (if (wrap64 ((l0.length : Int) + 3) : Int).toNat ≤ 281474976710656 then ((some (List.replicate (wrap64 ((l0.length : Int) + 3) : Int).toNat 0 : List Int)).bind fun y117 => (if 0 < y117.length then (busbarlaw0_LentBytes.l0 k l0 (Kd.laid y117 0 (min l0.length y117.length) l0) (l0.length : Int)) else (none))) else (none)) else (none)
theorem busbarlaw0_LentBytes.mono_l : ∀ k, (∀ y0 y1 y2, LeO (busbarlaw0_LentBytes.l0 k y0 y1 y2) (busbarlaw0_LentBytes.l0 (k + 1) y0 y1 y2))
 | 0 => fun _ _ _ r h => by simp [busbarlaw0_LentBytes.l0] at h
 | k + 1 => by
  have ih0 := busbarlaw0_LentBytes.mono_l k
  ·
   intro y0 y1 y2
   unfold busbarlaw0_LentBytes.l0
   repeat' first
   | (with_reducible exact ih0 _ _ _)
   | (with_reducible exact LeO.refl _)
   | (with_reducible exact LeO.none _)
   | (with_reducible refine LeO.ite ?_ ?_)
   | (with_reducible refine LeO.bind ?_ (fun _ => ?_))
   | exact ih0 _ _ _
   | exact LeO.none _
   | refine LeO.ite ?_ ?_
   | refine LeO.bind ?_ (fun _ => ?_)
theorem busbarlaw0_LentBytes.mono : ∀ a0 k, LeO (busbarlaw0_LentBytes.f k a0) (busbarlaw0_LentBytes.f (k + 1) a0) := by
 intro a0 k
 have ih0 := busbarlaw0_LentBytes.mono_l k
 unfold busbarlaw0_LentBytes.f
 repeat' first
   | (with_reducible exact ih0 _ _ _)
   | (with_reducible exact LeO.refl _)
   | (with_reducible exact LeO.none _)
   | (with_reducible refine LeO.ite ?_ ?_)
   | (with_reducible refine LeO.bind ?_ (fun _ => ?_))
   | exact ih0 _ _ _
   | exact LeO.none _
   | refine LeO.ite ?_ ?_
   | refine LeO.bind ?_ (fun _ => ?_)
set_option maxHeartbeats 8000000 in
set_option maxRecDepth 100000 in
theorem busbarlaw0_LentBytes.calls (k : Nat) (A0 : Option Addr) (c0 : Nat) (l0 : List Int) (r : List Int) (w : World) (hr0 : Kd.C (Kd.int .u8) w A0 l0.length l0) (hc0 : l0.length ≤ c0) (h : busbarlaw0_LentBytes.f k l0 = some r) :
  Calls Try.prog 17 #[.slice A0 l0.length c0] w fun e w' => ∃ v0_ : Value, e = .returned (v0_) ∧ Kd.L (Kd.int .u8) 5 w' w.heap.size (fun _ => True) v0_ r ∧ Below w.heap.size w w' := by
 have HR0 := Aside0.mk hr0
 have HC0 := Aside0.mk hc0
 clear hr0 hc0
 have HB := Aside0.mk (Below.refl w.heap.size w)
 have H : (if 0 ≤ (wrap64 ((l0.length : Int) + 3)) then (if (wrap64 ((l0.length : Int) + 3) : Int).toNat ≤ 281474976710656 then ((some (List.replicate (wrap64 ((l0.length : Int) + 3) : Int).toNat 0 : List Int)).bind fun y117 => (if 0 < y117.length then (busbarlaw0_LentBytes.l0 k l0 (Kd.laid y117 0 (min l0.length y117.length) l0) (l0.length : Int)) else (none))) else (none)) else (none)) = some r := h
 clear h
 obtain ⟨ji2, hji2⟩ : ∃ j_ : Int, (wrap64 ((l0.length : Int) + 3)) = j_ := ⟨_, rfl⟩
 replace H : (if 0 ≤ (ji2) then (if (ji2 : Int).toNat ≤ 281474976710656 then ((some (List.replicate (ji2 : Int).toNat 0 : List Int)).bind fun y117 => (if 0 < y117.length then (busbarlaw0_LentBytes.l0 k l0 (Kd.laid y117 0 (min l0.length y117.length) l0) (l0.length : Int)) else (none))) else (none)) else (none)) = some r := by first | (rw [hji2] at H; exact H) | (simp only [hji2] at H ⊢; exact H)
 have hji2w : (IntKind.i64.wrap ((l0.length : Int) + 3)) = ji2 := (i64_w _).trans hji2
 by_cases c3 : 0 ≤ (ji2)
 ·
  rw [if_pos c3] at H
  have c3b0 := eq_true c3
  have c3b1 : decide (0 ≤ (ji2)) = true := decide_eq_true c3
  clear c3
  by_cases c4 : (ji2 : Int).toNat ≤ 281474976710656
  ·
   rw [if_pos c4] at H
   have c4b0 := eq_true c4
   have c4b1 : decide ((ji2 : Int).toNat ≤ 281474976710656) = true := decide_eq_true c4
   clear c4
   obtain ⟨y117, hy117⟩ : ∃ y_ : List Int, y_ = (List.replicate (ji2 : Int).toNat 0) := ⟨_, rfl⟩
   replace H : (if 0 < y117.length then (busbarlaw0_LentBytes.l0 k l0 (Kd.laid y117 0 (min l0.length y117.length) l0) (l0.length : Int)) else (none)) = some r := by first | (rw [hy117]; with_reducible exact H) | (have H2_ := (Option.bind_some _ _).symm.trans H; rw [hy117]; with_reducible exact H2_) | (have H2_ := (Option.bind_some _ _).symm.trans H; with_reducible exact H2_) | with_reducible exact H | (rw [hy117]; exact H) | exact H
   have Ny117 := Aside0.mk hy117
   clear hy117
   by_cases c5 : 0 < y117.length
   ·
    rw [if_pos c5] at H
    have c5b0 := eq_true c5
    have c5b1 : decide (0 < y117.length) = true := decide_eq_true c5
    clear c5
    obtain ⟨y120, hy120⟩ : ∃ y_ : List Int, y_ = (Kd.laid y117 0 (min l0.length y117.length) l0) := ⟨_, rfl⟩
    replace H : (busbarlaw0_LentBytes.l0 k l0 y120 (l0.length : Int)) = some r := by first | (rw [hy120]; with_reducible exact H) | (have H2_ := (Option.bind_some _ _).symm.trans H; rw [hy120]; with_reducible exact H2_) | (have H2_ := (Option.bind_some _ _).symm.trans H; with_reducible exact H2_) | with_reducible exact H | (rw [hy120]; exact H) | exact H
    have Ny120 := Aside0.mk hy120
    clear hy120
    have H' := Aside0.mk H
    clear H
    go_enter Try.func17, Try.ntmps17
    go_wp2_with (first | ((with_reducible refine gate_dst (N := 8) rfl ?_); refine Kd.R_make (Kd.int .u8) _ 5 rfl (N := 8) rfl 30 _ _ rfl ji2 rfl rfl Try.underlying30 (.int .u8 0) 1 info5 rfl (by decide) (by omega) 0 (ok := fun _ => True) (okp := fun _ => True) rfl (fun _ hk => hk) trivial (of_decide_eq_true (by first | (with_reducible assumption) | assumption)) (Nat.le_trans (Nat.mul_le_mul_right _ (of_decide_eq_true (by first | (with_reducible assumption) | assumption) : ji2.toNat ≤ 281474976710656)) (by omega)) (Below.refl _ _) (Nat.le_refl _) ?_; intro v118 w6 ho7 hb hg_ hnew_; clear hg_ hnew_; (first | rw [← Ny117.out] at ho7 | (simp only [Int.reduceToNat] at ho7; rw [← Ny117.out] at ho7)); have n0_ := Aside0.mk (Kd.R_lower ho7 (below_size (by repeat (first | (with_reducible first | exact HB.out | apply below_alloc | apply pw_below_drewN | apply below_drew1) | exact HB.out)))); have n1_ := Aside0.mk (below_step (by repeat (first | (with_reducible first | exact HB.out | apply below_alloc | apply pw_below_drewN | apply below_drew1) | exact HB.out)) hb); clear HB; have HO119 := n0_; have HB := n1_; clear n0_ n1_; clear hb ho7; obtain ⟨Ao10, co10, eo10⟩ := Kd.R_slice HO119.out; subst eo10; obtain ⟨go9, co9, eo9, gb9, gl9, cl9, HG9⟩ := Kd.R_form HO119.out (by have hp_ : 0 < y117.length := of_decide_eq_true (by first | (with_reducible assumption) | assumption); omega); (first | cases eo9 | (injection eo9 with ea_ en_ ec_; (first | subst ea_ | (injection ea_ with ea_; subst ea_)); subst ec_; clear en_)); have GB9 := Aside0.mk gb9; have GG9 := Aside0.mk HG9; clear gb9 gl9 HG9) | ((with_reducible refine gate_builtin (b := .copy) (xs := #[.tmp 9, .tmp 10]) (ts := #[30, 30]) rfl ?_); refine Kd.R_copy_at (Kd.int .u8) (Kd.flat_int .u8) (w0 := w) w.heap.size rfl (.tmp 9) (.tmp 10) 30 30 5 rfl Try.underlying30 (by kernel_rfl) (g := go9) (n := y117.length) (c := co10) 0 l0 rfl rfl (by (with_reducible repeat (first | apply Kd.R_alloc | apply Kd.R_drewN | apply Kd.R_drew)); exact HO119.out) ?hm ?hA ?hR (by repeat (first | (with_reducible first | exact HB.out | apply below_alloc | apply pw_below_drewN | apply below_drew1) | exact HB.out)) (below_size (by repeat (first | (with_reducible first | exact HB.out | apply below_alloc | apply pw_below_drewN | apply below_drew1) | exact HB.out))) ?_; (case hm => omega); (case hA => intro _; rw [Nat.zero_mul]); (case hR => repeat (first | exact (Kd.C_below HR0.out HB.out) | (with_reducible refine Kd.C_alloc ?_ _) | (with_reducible refine Kd.C_drewN ?_ _) | (with_reducible refine Kd.C_drew ?_))); intro w8 ho hb hg; rw [← Ny120.out] at ho; have hn_ : y117.length = y120.length := (Kd.R_reads' ho).1; rw [hn_] at ho ⊢; clear hn_; have n0_ := Aside0.mk (ho); have n1_ := Aside0.mk (hb); clear HO119; clear HB; have HO119 := n0_; have HB := n1_; clear n0_ n1_; clear ho hb hg))
    go_loopg [4] k (fun kq v4 w' => ∃ (x3_1 : List Int) (x4_1 : Int), v4 = .int .i64 x4_1 ∧ Aside0 (busbarlaw0_LentBytes.l0 kq l0 x3_1 x4_1 = some r) ∧ Aside0 (kq ≤ k) ∧ Aside0 (Kd.R (Kd.int .u8) 5 w' w.heap.size (fun _ => True) (.slice (some ⟨go9, 0, none⟩) y120.length co10) x3_1) ∧ Aside0 (Below w.heap.size w w'))
    case atStart => exact ⟨(y120), ((l0.length : Int)), (by first | rfl | (simp; done) | (simp [*]; done)), H', ⟨Nat.le_refl _⟩, ⟨by (with_reducible repeat (first | apply Kd.R_alloc | apply Kd.R_drewN | apply Kd.R_drew)); exact HO119.out⟩, ⟨by repeat (first | (with_reducible first | exact HB.out | apply below_alloc | apply pw_below_drewN | apply below_drew1) | exact HB.out)⟩⟩
    case round =>
     clear H'
     try clear c1
     try clear p2
     try clear c3
     try clear c3b0
     try clear c3b1
     try clear c4
     try clear c4b0
     try clear c4b1
     try clear c5
     try clear c5b0
     try clear c5b1
     try clear p6
     obtain ⟨x3_1, x4_1, rfl, HA, HK1, HO_3, HB⟩ := hrel
     have hl3_1 := (Kd.R_reads' HO_3.out).1
     rw [hl3_1] at HO_3
     (try simp only [hl3_1])
     cases gk with
     | zero => exact absurd HA.out (by simp [busbarlaw0_LentBytes.l0])
     | succ k1 =>
      have H := HA.out
      clear HA
      simp only [busbarlaw0_LentBytes.l0] at H
      by_cases c11 : x4_1 < (x3_1.length : Int)
      ·
       rw [if_pos c11] at H
       have c11b0 : decide (x4_1 < (x3_1.length : Int)) = true := decide_eq_true c11
       (try rw [hl3_1] at c11b0)
       clear c11
       by_cases c12 : 0 ≤ x4_1
       ·
        rw [if_pos c12] at H
        have c12b0 : decide (0 ≤ x4_1) = true := decide_eq_true c12
        clear c12
        obtain ⟨y123, hy123⟩ : ∃ y_ : List Int, y_ = (x3_1.set (x4_1 : Int).toNat 165) := ⟨_, rfl⟩
        replace H : (busbarlaw0_LentBytes.l0 k1 l0 y123 (wrap64 (x4_1 + 1))) = some r := by first | (rw [hy123]; with_reducible exact H) | (have H2_ := (Option.bind_some _ _).symm.trans H; rw [hy123]; with_reducible exact H2_) | (have H2_ := (Option.bind_some _ _).symm.trans H; with_reducible exact H2_) | with_reducible exact H | (rw [hy123]; exact H) | exact H
        have Ny123 := Aside0.mk hy123
        clear hy123
        have H' := Aside0.mk H
        clear H
        have p13 : 0 ≤ (x4_1 : Int) := of_decide_eq_true (by first | (with_reducible assumption) | assumption)
        have q13 : (x4_1 : Int) < ((x3_1.length : Int) : Int) := of_decide_eq_true (by first | (with_reducible assumption) | assumption)
        obtain ⟨hx13_0, hf13_0⟩ := Kd.R_celln 0 HO_3.out (x4_1 : Int) p13 q13
        replace p13 := eq_true p13
        replace q13 := eq_true q13
        have HP14 := Kd.R_putg HO_3.out (x4_1 : Int) 165
        go_wp2_with (first | ((with_reducible refine gate_store (t := 5) (p := 22) rfl ?_); refine store_event (t := 5) (p := 22) (v := ?vo_w15) (w1 := (wr.setCell ⟨go9, (x4_1 : Int).toNat, none⟩ (.int .u8 165))) ?hg ?ho ?hn ?hr ?_; (case ho => rfl); (case hg => rfl); (case hn => rfl); (case hr => first | (go_simp; done) | (go_simp; rfl)); intro w15 hw; have hg : wr.grownBy w15 (some go9) := (by rw [hw]; exact HP14.2); have hp_ : Kd.R (Kd.int .u8) 5 w15 w.heap.size (fun _ => True) (.slice (some ⟨go9, 0, none⟩) x3_1.length co10) y123 := (by rw [hw, Ny123.out]; exact HP14.1); clear HP14; have n0_ := Aside0.mk (hp_); have n1_ := Aside0.mk ((by rw [hw]; exact below_set (HB.out) GB9.out : Below w.heap.size w w15)); clear HO_3; clear HB; have HO_3 := n0_; have HB := n1_; clear n0_ n1_; clear hg hw hp_))
        (try simp only [← hl3_1])
        go_roundg k1
        case measure => have := HK1.out; omega
        case rel => exact ⟨(y123), (wrap64 (x4_1 + 1)), (by first | rfl | (simp; done) | (simp [*]; done)), H', ⟨by have := HK1.out; omega⟩, ⟨by (try simp only [hl3_1]); (with_reducible repeat (first | apply Kd.R_alloc | apply Kd.R_drewN | apply Kd.R_drew)); exact HO_3.out⟩, ⟨by repeat (first | (with_reducible first | exact HB.out | apply below_alloc | apply pw_below_drewN | apply below_drew1) | exact HB.out)⟩⟩
       ·
        rw [if_neg c12] at H
        exact absurd H (by simp)
      ·
       rw [if_neg c11] at H
       have c11b0 : decide (x4_1 < (x3_1.length : Int)) = false := decide_eq_false c11
       (try rw [hl3_1] at c11b0)
       clear c11
       by_cases c16 : 0 ≤ (l0.length : Int)
       ·
        rw [if_pos c16] at H
        have c16b0 := eq_true c16
        have c16b1 : decide (0 ≤ (l0.length : Int)) = true := decide_eq_true c16
        (try rw [hl3_1] at c16b1)
        clear c16
        by_cases c17 : (l0.length : Int) ≤ (x3_1.length : Int)
        ·
         rw [if_pos c17] at H
         have c17b0 := eq_true c17
         have c17b1 : decide ((l0.length : Int) ≤ (x3_1.length : Int)) = true := decide_eq_true c17
         (try rw [hl3_1] at c17b1)
         clear c17
         by_cases c18 : x3_1.drop ((l0.length : Int) : Int).toNat = Kd.marks (Kd.int .u8)
         ·
          rw [if_pos c18] at H
          have c18b0 := eq_true c18
          have c18b1 : decide (x3_1.drop ((l0.length : Int) : Int).toNat = Kd.marks (Kd.int .u8)) = true := decide_eq_true c18
          (try rw [hl3_1] at c18b1)
          clear c18
          obtain ⟨y124, hy124⟩ : ∃ y_ : List Int, y_ = (x3_1.take ((l0.length : Int) : Int).toNat) := ⟨_, rfl⟩
          replace H : (some y124) = some r := by first | (rw [hy124]; with_reducible exact H) | (have H2_ := (Option.bind_some _ _).symm.trans H; rw [hy124]; with_reducible exact H2_) | (have H2_ := (Option.bind_some _ _).symm.trans H; with_reducible exact H2_) | with_reducible exact H | (rw [hy124]; exact H) | exact H
          have Ny124 := Aside0.mk hy124
          clear hy124
          obtain rfl := Option.some.inj H
          have q19 : ((l0.length : Int) : Int) ≤ ((x3_1.length : Int) : Int) := of_decide_eq_true (by first | (with_reducible assumption) | assumption)
          obtain ⟨i019, hi019, _, hsz19, _⟩ := info_parts info5
          have hcut19 := cut_to (P := Try.prog) 30 5 .i64 Try.underlying30 hi019 (some ⟨go9, 0, none⟩) x3_1.length co10 (l0.length : Int) (of_decide_eq_true (by first | (with_reducible assumption) | assumption)) q19 (Kd.R_reads' HO_3.out).2.1
          have hr19 := Kd.L_of_R (m := ((l0.length : Int) : Int).toNat) HO_3.out (of_decide_eq_true (by first | (with_reducible assumption) | assumption))
          have hy19 : y124.length = ((l0.length : Int) : Int).toNat := (by rw [Ny124.out, List.length_take]; omega)
          rw [← Ny124.out] at hr19
          rw [← hy19] at hr19 hcut19
          clear hy19 hi019 hsz19 HO_3
          have HO126 := Aside0.mk hr19
          clear hr19
          replace q19 := eq_true q19
          go_wp2
          go_ret
          exact ⟨_, by first | rfl | (simp [errW_none, errW_some] <;> rfl) | (simp only [← hji2]; first | rfl | (simp [errW_none, errW_some] <;> rfl)) | (simp [*, errW_none, errW_some] <;> rfl), by (with_reducible repeat (first | apply Kd.L_alloc | apply Kd.L_drewN | apply Kd.L_drew)); exact HO126.out, by repeat (first | (with_reducible first | exact HB.out | apply below_alloc | apply pw_below_drewN | apply below_drew1) | exact HB.out)⟩
         ·
          rw [if_neg c18] at H
          exact absurd H (by simp)
        ·
         rw [if_neg c17] at H
         exact absurd H (by simp)
       ·
        rw [if_neg c16] at H
        exact absurd H (by simp)
   ·
    rw [if_neg c5] at H
    exact absurd H (by simp)
  ·
   rw [if_neg c4] at H
   exact absurd H (by simp)
 ·
  rw [if_neg c3] at H
  exact absurd H (by simp)
end Go.Proofs.Ytakiojmjalbfpaa.PRing
namespace Go.Proofs.Ytakiojmjalbfpaa.PRing
open Go.RowKit Go.Proofs.YtakiojmjalbfpaaW.PrintWords Go.Proofs.YtakiojmjalbfpaaW.PrintLast Go.Proofs.YtakiojmjalbfpaaW.PrintMore
attribute [local go_sem] max2_int min2_int max_two min_two max_three min_three max_four min_four plus_setCell_drewN plus_cell_same   -- for this text's walks alone
set_option linter.unusedVariables false
set_option linter.unusedSimpArgs false
def busbarlaw0_StaysBytes.l0 : Nat → List Int → List Int → Int → Option (Bool)
 | 0, _, _, _ => none
 | k + 1, x1, x5, x6 => if x6 < (x5.length : Int) then (if x6 < (x1.length : Int) then (if 0 ≤ x6 then (if (rd x5 x6) = (rd x1 x6) then (if x6 ≥ (x1.length : Int) then (if (rd x5 x6) = 165 then (busbarlaw0_StaysBytes.l0 k x1 x5 (wrap64 (x6 + 1))) else (some false)) else (busbarlaw0_StaysBytes.l0 k x1 x5 (wrap64 (x6 + 1)))) else (some false)) else (none)) else (if x6 ≥ (x1.length : Int) then (if 0 ≤ x6 then (if (rd x5 x6) = 165 then (busbarlaw0_StaysBytes.l0 k x1 x5 (wrap64 (x6 + 1))) else (some false)) else (none)) else (busbarlaw0_StaysBytes.l0 k x1 x5 (wrap64 (x6 + 1))))) else (some true)
def busbarlaw0_StaysBytes.f (k : Nat) (l0 : List Int) (l1 : List Int) : Option (Bool) := if (l0.length : Int) = (l1.length : Int) then (if 0 ≤ (wrap64 ((l1.length : Int) + 3)) then (if (wrap64 ((l1.length : Int) + 3)) = ((l0 ++ Kd.marks (Kd.int .u8)).length : Int) then (busbarlaw0_StaysBytes.l0 k l1 (l0 ++ Kd.marks (Kd.int .u8)) 0) else (none)) else (none)) else (some false)
theorem busbarlaw0_StaysBytes.mono_l : ∀ k, (∀ y0 y1 y2, LeO (busbarlaw0_StaysBytes.l0 k y0 y1 y2) (busbarlaw0_StaysBytes.l0 (k + 1) y0 y1 y2))
 | 0 => fun _ _ _ r h => by simp [busbarlaw0_StaysBytes.l0] at h
 | k + 1 => by
  have ih0 := busbarlaw0_StaysBytes.mono_l k
  ·
   intro y0 y1 y2
   unfold busbarlaw0_StaysBytes.l0
   repeat' first
   | (with_reducible exact ih0 _ _ _)
   | (with_reducible exact LeO.refl _)
   | (with_reducible exact LeO.none _)
   | (with_reducible refine LeO.ite ?_ ?_)
   | (with_reducible refine LeO.bind ?_ (fun _ => ?_))
   | exact ih0 _ _ _
   | exact LeO.none _
   | refine LeO.ite ?_ ?_
   | refine LeO.bind ?_ (fun _ => ?_)
theorem busbarlaw0_StaysBytes.mono : ∀ a0 a1 k, LeO (busbarlaw0_StaysBytes.f k a0 a1) (busbarlaw0_StaysBytes.f (k + 1) a0 a1) := by
 intro a0 a1 k
 have ih0 := busbarlaw0_StaysBytes.mono_l k
 unfold busbarlaw0_StaysBytes.f
 repeat' first
   | (with_reducible exact ih0 _ _ _)
   | (with_reducible exact LeO.refl _)
   | (with_reducible exact LeO.none _)
   | (with_reducible refine LeO.ite ?_ ?_)
   | (with_reducible refine LeO.bind ?_ (fun _ => ?_))
   | exact ih0 _ _ _
   | exact LeO.none _
   | refine LeO.ite ?_ ?_
   | refine LeO.bind ?_ (fun _ => ?_)
set_option maxHeartbeats 8000000 in
set_option maxRecDepth 100000 in
theorem busbarlaw0_StaysBytes.calls (k : Nat) (A0 : Option Addr) (c0 : Nat) (l0 : List Int) (A1 : Option Addr) (c1 : Nat) (l1 : List Int) (r : Bool) (w : World) (hr0 : Kd.C (Kd.int .u8) w A0 (l0 ++ Kd.marks (Kd.int .u8)).length (l0 ++ Kd.marks (Kd.int .u8))) (hc0 : (l0 ++ Kd.marks (Kd.int .u8)).length ≤ c0) (hr1 : Kd.C (Kd.int .u8) w A1 l1.length l1) (hc1 : l1.length ≤ c1) (h : busbarlaw0_StaysBytes.f k l0 l1 = some r) :
  Calls Try.prog 20 #[.slice A0 l0.length c0, .slice A1 l1.length c1] w fun e w' => e = .returned (.bool r) ∧ Drawn0 w w' := by
 have HX0 := Aside0.mk hr0
 have HXC0 := Aside0.mk hc0
 have HR0 := Aside0.mk (show Kd.C (Kd.int .u8) w A0 l0.length l0 from by have h3_ := Kd.C_take (m := l0.length) hr0 (by simp); rwa [List.take_left] at h3_)
 have HC0 := Aside0.mk (show l0.length ≤ c0 from by rw [List.length_append] at hc0; omega)
 clear hr0 hc0
 have HR1 := Aside0.mk hr1
 have HC1 := Aside0.mk hc1
 clear hr1 hc1
 have H : (if (l0.length : Int) = (l1.length : Int) then (if 0 ≤ (wrap64 ((l1.length : Int) + 3)) then (if (wrap64 ((l1.length : Int) + 3)) = ((l0 ++ Kd.marks (Kd.int .u8)).length : Int) then (busbarlaw0_StaysBytes.l0 k l1 (l0 ++ Kd.marks (Kd.int .u8)) 0) else (none)) else (none)) else (some false)) = some r := h
 clear h
 by_cases c3 : (l0.length : Int) = (l1.length : Int)
 ·
  rw [if_pos c3] at H
  have c3b0 : ((l0.length : Int) == (l1.length : Int)) = true := beq_iff_eq.mpr c3
  have c3b1 : ((l0.length : Int) != (l1.length : Int)) = false := bne_eq_false_iff_eq.mpr c3
  have c3b2 : (l0.length == l1.length) = true := by first | simpa using c3 | (simp at c3 ⊢; omega)
  clear c3
  obtain ⟨ji4, hji4⟩ : ∃ j_ : Int, (wrap64 ((l1.length : Int) + 3)) = j_ := ⟨_, rfl⟩
  replace H : (if 0 ≤ (ji4) then (if (ji4) = ((l0 ++ Kd.marks (Kd.int .u8)).length : Int) then (busbarlaw0_StaysBytes.l0 k l1 (l0 ++ Kd.marks (Kd.int .u8)) 0) else (none)) else (none)) = some r := by first | (rw [hji4] at H; exact H) | (simp only [hji4] at H ⊢; exact H)
  have hji4w : (IntKind.i64.wrap ((l1.length : Int) + 3)) = ji4 := (i64_w _).trans hji4
  by_cases c5 : 0 ≤ (ji4)
  ·
   rw [if_pos c5] at H
   have c5b0 := eq_true c5
   have c5b1 : decide (0 ≤ (ji4)) = true := decide_eq_true c5
   clear c5
   by_cases c6 : (ji4) = ((l0 ++ Kd.marks (Kd.int .u8)).length : Int)
   ·
    rw [if_pos c6] at H
    have c6b0 := eq_true c6
    have c6b1 : decide ((ji4) = ((l0 ++ Kd.marks (Kd.int .u8)).length : Int)) = true := decide_eq_true c6
    obtain ⟨y127, hy127⟩ : ∃ y_ : List Int, y_ = (l0 ++ Kd.marks (Kd.int .u8)) := ⟨_, rfl⟩
    replace H : (busbarlaw0_StaysBytes.l0 k l1 y127 0) = some r := by first | (rw [hy127]; with_reducible exact H) | (have H2_ := (Option.bind_some _ _).symm.trans H; rw [hy127]; with_reducible exact H2_) | (have H2_ := (Option.bind_some _ _).symm.trans H; with_reducible exact H2_) | with_reducible exact H | (rw [hy127]; exact H) | exact H
    have Ny127 := Aside0.mk hy127
    clear hy127
    have H' := Aside0.mk H
    clear H
    obtain ⟨i07, hi07, _, hsz7, _⟩ := info_parts info5
    have hj7 : (ji4) = ((l0 ++ Kd.marks (Kd.int .u8)).length : Int) := of_decide_eq_true (by first | (with_reducible assumption) | assumption)
    rw [← Ny127.out] at hj7
    have HR130 := Aside0.mk (show Kd.C (Kd.int .u8) w A0 y127.length y127 from by rw [Ny127.out]; exact HX0.out)
    have HC130 := Aside0.mk (show y127.length ≤ c0 from by rw [Ny127.out]; exact HXC0.out)
    have hcut7 := cut_over (P := Try.prog) 30 5 .i64 Try.underlying30 hi07 A0 l0.length y127.length c0 (ji4) hj7 HC130.out
    clear hi07 hsz7 hj7
    (try clear c6b0)
    (try clear c6b1)
    (try clear c6)
    go_enter Try.func20, Try.ntmps20
    go_wp2
    repeat (go_quiet (fail); try go_wp2)
    go_loopg [6] k (fun kq v6 w' => ∃ (x6_1 : Int), v6 = .int .i64 x6_1 ∧ Aside0 (busbarlaw0_StaysBytes.l0 kq l1 y127 x6_1 = some r) ∧ Aside0 (kq ≤ k) ∧ Drawn0 w w')
    case atStart => exact ⟨(0), (by first | rfl | (simp; done) | (simp [*]; done)), H', ⟨Nat.le_refl _⟩, by repeat (first | exact Drawn0.refl _ | apply Drawn0.step)⟩
    case round =>
     clear H'
     try clear c1
     try clear c2
     try clear p2
     try clear c3
     try clear c3b0
     try clear c3b1
     try clear c3b2
     try clear c5
     try clear c5b0
     try clear c5b1
     try clear c6
     try clear c6b0
     try clear c6b1
     try clear p6
     obtain ⟨x6_1, rfl, HA, HK1, ⟨m1, rfl⟩⟩ := hrel
     cases gk with
     | zero => exact absurd HA.out (by simp [busbarlaw0_StaysBytes.l0])
     | succ k1 =>
      have H := HA.out
      clear HA
      simp only [busbarlaw0_StaysBytes.l0] at H
      by_cases c8 : x6_1 < (y127.length : Int)
      ·
       rw [if_pos c8] at H
       have c8b0 : decide (x6_1 < (y127.length : Int)) = true := decide_eq_true c8
       clear c8
       by_cases c9 : x6_1 < (l1.length : Int)
       ·
        rw [if_pos c9] at H
        have c9b0 : decide (x6_1 < (l1.length : Int)) = true := decide_eq_true c9
        clear c9
        by_cases c10 : 0 ≤ x6_1
        ·
         rw [if_pos c10] at H
         have c10b0 : decide (0 ≤ x6_1) = true := decide_eq_true c10
         clear c10
         by_cases c11 : (rd y127 x6_1) = (rd l1 x6_1)
         ·
          rw [if_pos c11] at H
          have c11b0 : ((rd y127 x6_1) == (rd l1 x6_1)) = true := beq_iff_eq.mpr c11
          have c11b1 : ((rd y127 x6_1) != (rd l1 x6_1)) = false := bne_eq_false_iff_eq.mpr c11
          clear c11
          by_cases c12 : x6_1 ≥ (l1.length : Int)
          ·
           rw [if_pos c12] at H
           have c12b0 : decide ((l1.length : Int) ≤ x6_1) = true := decide_eq_true c12
           clear c12
           by_cases c13 : (rd y127 x6_1) = 165
           ·
            rw [if_pos c13] at H
            have c13b0 : ((rd y127 x6_1) == 165) = true := beq_iff_eq.mpr c13
            have c13b1 : ((rd y127 x6_1) != 165) = false := bne_eq_false_iff_eq.mpr c13
            clear c13
            have H' := Aside0.mk H
            clear H
            have p131 : 0 ≤ (x6_1 : Int) := of_decide_eq_true (by first | (with_reducible assumption) | assumption)
            have q131 : x6_1 < (y127.length : Int) := of_decide_eq_true (by first | (with_reducible assumption) | assumption)
            obtain ⟨ad131, e131, hx131_0⟩ := Kd.at_int HR130.out x6_1 p131 q131
            cases e131
            replace p131 := eq_true p131
            replace q131 := eq_true q131
            have p132 : 0 ≤ (x6_1 : Int) := of_decide_eq_true (by first | (with_reducible assumption) | assumption)
            have q132 : x6_1 < (l1.length : Int) := of_decide_eq_true (by first | (with_reducible assumption) | assumption)
            obtain ⟨ad132, e132, hx132_0⟩ := Kd.at_int HR1.out x6_1 p132 q132
            cases e132
            replace p132 := eq_true p132
            replace q132 := eq_true q132
            have p133 : 0 ≤ (x6_1 : Int) := of_decide_eq_true (by first | (with_reducible assumption) | assumption)
            have q133 : x6_1 < (y127.length : Int) := of_decide_eq_true (by first | (with_reducible assumption) | assumption)
            obtain ⟨ad133, e133, hx133_0⟩ := Kd.at_int HR130.out x6_1 p133 q133
            obtain rfl : ad131 = ad133 := (by injection e133)
            replace p133 := eq_true p133
            replace q133 := eq_true q133
            go_wp2
            repeat (go_quiet (fail); try go_wp2)
            go_roundg k1
            case measure => have := HK1.out; omega
            case rel => exact ⟨(wrap64 (x6_1 + 1)), (by first | rfl | (simp; done) | (simp [*]; done)), H', ⟨by have := HK1.out; omega⟩, by repeat (first | exact Drawn0.refl _ | apply Drawn0.step)⟩
           ·
            rw [if_neg c13] at H
            have c13b0 : ((rd y127 x6_1) == 165) = false := beq_eq_false_iff_ne.mpr c13
            have c13b1 : ((rd y127 x6_1) != 165) = true := bne_iff_ne.mpr c13
            obtain rfl := Option.some.inj H
            have p131 : 0 ≤ (x6_1 : Int) := of_decide_eq_true (by first | (with_reducible assumption) | assumption)
            have q131 : x6_1 < (y127.length : Int) := of_decide_eq_true (by first | (with_reducible assumption) | assumption)
            obtain ⟨ad131, e131, hx131_0⟩ := Kd.at_int HR130.out x6_1 p131 q131
            cases e131
            replace p131 := eq_true p131
            replace q131 := eq_true q131
            have p132 : 0 ≤ (x6_1 : Int) := of_decide_eq_true (by first | (with_reducible assumption) | assumption)
            have q132 : x6_1 < (l1.length : Int) := of_decide_eq_true (by first | (with_reducible assumption) | assumption)
            obtain ⟨ad132, e132, hx132_0⟩ := Kd.at_int HR1.out x6_1 p132 q132
            cases e132
            replace p132 := eq_true p132
            replace q132 := eq_true q132
            have p133 : 0 ≤ (x6_1 : Int) := of_decide_eq_true (by first | (with_reducible assumption) | assumption)
            have q133 : x6_1 < (y127.length : Int) := of_decide_eq_true (by first | (with_reducible assumption) | assumption)
            obtain ⟨ad133, e133, hx133_0⟩ := Kd.at_int HR130.out x6_1 p133 q133
            obtain rfl : ad131 = ad133 := (by injection e133)
            replace p133 := eq_true p133
            replace q133 := eq_true q133
            go_wp2
            repeat (go_quiet (fail); try go_wp2)
            go_ret
            exact ⟨by first | rfl | (simp; done) | (simp only [← hji4] <;> (first | rfl | simp)) | (simp [*]; done), by repeat (first | exact Drawn0.refl _ | apply Drawn0.step)⟩
          ·
           rw [if_neg c12] at H
           have c12b0 : decide ((l1.length : Int) ≤ x6_1) = false := decide_eq_false c12
           clear c12
           have H' := Aside0.mk H
           clear H
           have p131 : 0 ≤ (x6_1 : Int) := of_decide_eq_true (by first | (with_reducible assumption) | assumption)
           have q131 : x6_1 < (y127.length : Int) := of_decide_eq_true (by first | (with_reducible assumption) | assumption)
           obtain ⟨ad131, e131, hx131_0⟩ := Kd.at_int HR130.out x6_1 p131 q131
           cases e131
           replace p131 := eq_true p131
           replace q131 := eq_true q131
           have p132 : 0 ≤ (x6_1 : Int) := of_decide_eq_true (by first | (with_reducible assumption) | assumption)
           have q132 : x6_1 < (l1.length : Int) := of_decide_eq_true (by first | (with_reducible assumption) | assumption)
           obtain ⟨ad132, e132, hx132_0⟩ := Kd.at_int HR1.out x6_1 p132 q132
           cases e132
           replace p132 := eq_true p132
           replace q132 := eq_true q132
           go_wp2
           repeat (go_quiet (fail); try go_wp2)
           go_roundg k1
           case measure => have := HK1.out; omega
           case rel => exact ⟨(wrap64 (x6_1 + 1)), (by first | rfl | (simp; done) | (simp [*]; done)), H', ⟨by have := HK1.out; omega⟩, by repeat (first | exact Drawn0.refl _ | apply Drawn0.step)⟩
         ·
          rw [if_neg c11] at H
          have c11b0 : ((rd y127 x6_1) == (rd l1 x6_1)) = false := beq_eq_false_iff_ne.mpr c11
          have c11b1 : ((rd y127 x6_1) != (rd l1 x6_1)) = true := bne_iff_ne.mpr c11
          obtain rfl := Option.some.inj H
          have p131 : 0 ≤ (x6_1 : Int) := of_decide_eq_true (by first | (with_reducible assumption) | assumption)
          have q131 : x6_1 < (y127.length : Int) := of_decide_eq_true (by first | (with_reducible assumption) | assumption)
          obtain ⟨ad131, e131, hx131_0⟩ := Kd.at_int HR130.out x6_1 p131 q131
          cases e131
          replace p131 := eq_true p131
          replace q131 := eq_true q131
          have p132 : 0 ≤ (x6_1 : Int) := of_decide_eq_true (by first | (with_reducible assumption) | assumption)
          have q132 : x6_1 < (l1.length : Int) := of_decide_eq_true (by first | (with_reducible assumption) | assumption)
          obtain ⟨ad132, e132, hx132_0⟩ := Kd.at_int HR1.out x6_1 p132 q132
          cases e132
          replace p132 := eq_true p132
          replace q132 := eq_true q132
          go_wp2
          repeat (go_quiet (fail); try go_wp2)
          go_ret
          exact ⟨by first | rfl | (simp; done) | (simp only [← hji4] <;> (first | rfl | simp)) | (simp [*]; done), by repeat (first | exact Drawn0.refl _ | apply Drawn0.step)⟩
        ·
         rw [if_neg c10] at H
         exact absurd H (by simp)
       ·
        rw [if_neg c9] at H
        have c9b0 : decide (x6_1 < (l1.length : Int)) = false := decide_eq_false c9
        clear c9
        by_cases c14 : x6_1 ≥ (l1.length : Int)
        ·
         rw [if_pos c14] at H
         have c14b0 : decide ((l1.length : Int) ≤ x6_1) = true := decide_eq_true c14
         clear c14
         by_cases c15 : 0 ≤ x6_1
         ·
          rw [if_pos c15] at H
          have c15b0 : decide (0 ≤ x6_1) = true := decide_eq_true c15
          clear c15
          by_cases c16 : (rd y127 x6_1) = 165
          ·
           rw [if_pos c16] at H
           have c16b0 : ((rd y127 x6_1) == 165) = true := beq_iff_eq.mpr c16
           have c16b1 : ((rd y127 x6_1) != 165) = false := bne_eq_false_iff_eq.mpr c16
           clear c16
           have H' := Aside0.mk H
           clear H
           have p134 : 0 ≤ (x6_1 : Int) := of_decide_eq_true (by first | (with_reducible assumption) | assumption)
           have q134 : x6_1 < (y127.length : Int) := of_decide_eq_true (by first | (with_reducible assumption) | assumption)
           obtain ⟨ad134, e134, hx134_0⟩ := Kd.at_int HR130.out x6_1 p134 q134
           cases e134
           replace p134 := eq_true p134
           replace q134 := eq_true q134
           go_wp2
           repeat (go_quiet (fail); try go_wp2)
           go_roundg k1
           case measure => have := HK1.out; omega
           case rel => exact ⟨(wrap64 (x6_1 + 1)), (by first | rfl | (simp; done) | (simp [*]; done)), H', ⟨by have := HK1.out; omega⟩, by repeat (first | exact Drawn0.refl _ | apply Drawn0.step)⟩
          ·
           rw [if_neg c16] at H
           have c16b0 : ((rd y127 x6_1) == 165) = false := beq_eq_false_iff_ne.mpr c16
           have c16b1 : ((rd y127 x6_1) != 165) = true := bne_iff_ne.mpr c16
           obtain rfl := Option.some.inj H
           have p134 : 0 ≤ (x6_1 : Int) := of_decide_eq_true (by first | (with_reducible assumption) | assumption)
           have q134 : x6_1 < (y127.length : Int) := of_decide_eq_true (by first | (with_reducible assumption) | assumption)
           obtain ⟨ad134, e134, hx134_0⟩ := Kd.at_int HR130.out x6_1 p134 q134
           cases e134
           replace p134 := eq_true p134
           replace q134 := eq_true q134
           go_wp2
           repeat (go_quiet (fail); try go_wp2)
           go_ret
           exact ⟨by first | rfl | (simp; done) | (simp only [← hji4] <;> (first | rfl | simp)) | (simp [*]; done), by repeat (first | exact Drawn0.refl _ | apply Drawn0.step)⟩
         ·
          rw [if_neg c15] at H
          exact absurd H (by simp)
        ·
         rw [if_neg c14] at H
         have c14b0 : decide ((l1.length : Int) ≤ x6_1) = false := decide_eq_false c14
         clear c14
         have H' := Aside0.mk H
         clear H
         go_wp2
         repeat (go_quiet (fail); try go_wp2)
         go_roundg k1
         case measure => have := HK1.out; omega
         case rel => exact ⟨(wrap64 (x6_1 + 1)), (by first | rfl | (simp; done) | (simp [*]; done)), H', ⟨by have := HK1.out; omega⟩, by repeat (first | exact Drawn0.refl _ | apply Drawn0.step)⟩
      ·
       rw [if_neg c8] at H
       have c8b0 : decide (x6_1 < (y127.length : Int)) = false := decide_eq_false c8
       clear c8
       obtain rfl := Option.some.inj H
       go_wp2
       repeat (go_quiet (fail); try go_wp2)
       go_ret
       exact ⟨by first | rfl | (simp; done) | (simp only [← hji4] <;> (first | rfl | simp)) | (simp [*]; done), by repeat (first | exact Drawn0.refl _ | apply Drawn0.step)⟩
   ·
    rw [if_neg c6] at H
    exact absurd H (by simp)
  ·
   rw [if_neg c5] at H
   exact absurd H (by simp)
 ·
  rw [if_neg c3] at H
  have c3b0 : ((l0.length : Int) == (l1.length : Int)) = false := beq_eq_false_iff_ne.mpr c3
  have c3b1 : ((l0.length : Int) != (l1.length : Int)) = true := bne_iff_ne.mpr c3
  have c3b2 : (l0.length == l1.length) = false := by first | simpa using c3 | (simp at c3 ⊢; omega)
  obtain rfl := Option.some.inj H
  go_enter Try.func20, Try.ntmps20
  go_wp2
  repeat (go_quiet (fail); try go_wp2)
  go_ret
  exact ⟨by first | rfl | (simp; done) | (simp [*]; done), by repeat (first | exact Drawn0.refl _ | apply Drawn0.step)⟩
end Go.Proofs.Ytakiojmjalbfpaa.PRing
