/- Words and walks for FlowPlays (made of the session's own texts; each part by itself). -/
import Derived.BigQuiet
import Derived.Deep.QuietTactic
import Derived.Deep.RegionLaw
import Derived.Test.YtakiojmjalbfpaaZFlowPlays4
set_option linter.unusedVariables false
set_option linter.unusedSimpArgs false
namespace Go.Proofs.Ytakiojmjalbfpaa.Ring
open Go.RowKit Go.Proofs.YtakiojmjalbfpaaW.PrintWords Go.Proofs.YtakiojmjalbfpaaW.PrintLast Go.Proofs.YtakiojmjalbfpaaW.PrintMore
attribute [local go_sem] max2_int min2_int max_two min_two max_three min_three max_four min_four plus_setCell_drewN plus_cell_same
theorem ring_Len (w : World) (g B M : Nat) (q : List Int) (h : RingW w g B M q) :
    Calls Try.prog 25 #[.pointer (some ⟨g, 0, none⟩)] w fun e w' => e = .returned (.int .i64 (q.length : Int)) ∧ ∃ n, w' = w.drewN n := by
  obtain ⟨f, bs, hg, hB, hl, hM, hq, hf, hc⟩ := h.ex
  obtain ⟨c0, c1, c2⟩ := blkc3 hg
  have hu76 := Try.underlying76
  go_enter Try.func25, Try.ntmps25
  go_wp2_with (fail)
  go_ret
  exact ⟨rfl, 0, rfl⟩
theorem ring_Room (w : World) (g B M : Nat) (q : List Int) (h : RingW w g B M q) :
    Calls Try.prog 26 #[.pointer (some ⟨g, 0, none⟩)] w fun e w' => e = .returned (.int .i64 ((M : Int) - q.length)) ∧ ∃ n, w' = w.drewN n := by
  obtain ⟨f, bs, hg, hB, hl, hM, hq, hf, hc⟩ := h.ex
  obtain ⟨c0, c1, c2⟩ := blkc3 hg
  have hu76 := Try.underlying76
  have hw : wrap64 ((M : Int) - (q.length : Int)) = (M : Int) - q.length := by unfold wrap64; omega
  go_enter Try.func26, Try.ntmps26
  go_wp2_with (fail)
  go_quiet (fail)
  go_wp2
  go_ret
  exact ⟨by first | rfl | rw [hw], _, rfl⟩
set_option maxRecDepth 100000 in
theorem new_ring (w : World) (m : Nat) (hm : m ≤ 65536) : RingW ((w.alloc (.cells (madeCells #[Value.int .u8 0] m) 5)).alloc (.cells #[.slice (some ⟨w.heap.size, 0, none⟩) m m, .int .i64 0, .int .i64 0] 76)) (w.heap.size + 1) w.heap.size m [] :=
  ⟨0, List.replicate m 0, by
    have := blk_new (w.alloc (.cells (madeCells #[Value.int .u8 0] m) 5)) (.cells #[.slice (some ⟨w.heap.size, 0, none⟩) m m, .int .i64 0, .int .i64 0] 76)
    rw [show (w.alloc (.cells (madeCells #[Value.int .u8 0] m) 5)).heap.size = w.heap.size + 1 by simp] at this
    exact this, by rw [← made_bytes]; exact blk_alloc (blk_new w _) _, by simp, hm, by simp, .inl rfl, by simp⟩
theorem new_below (w : World) (o o' : Obj) : Below w.heap.size w ((w.alloc o).alloc o') := ((Below.refl _ _).alloc (Nat.le_refl _) _).alloc (by simp) _
theorem ring_New_mid (m : Nat) (h2 : m ≤ 65536) (w : World) :
    Calls Try.prog 13 #[.int .i64 (m : Int)] w fun e w' => ∃ g B, e = .returned (.pointer (some ⟨g, 0, none⟩)) ∧ RingW w' g B m [] ∧ w.heap.size ≤ g ∧ w.heap.size ≤ B ∧ Below w.heap.size w w' := by
  have hu76 := Try.underlying76
  have hu30 := Try.underlying30
  have hmk := run_make_row' (P := Try.prog) 30 5 (.int .u8 0) 1 Try.underlying30 (by kernel_rfl) rfl .i64 .i64 m (by omega) (by omega)
  go_enter Try.func13, Try.ntmps13
  go_wp2_with (fail)
  go_ret
  exact ⟨_, _, rfl, new_ring w m (by omega), by omega, by omega, new_below _ _ _⟩
set_option maxRecDepth 100000 in
theorem ring_New_low (n : Int) (h : n < 0) (w : World) :
    Calls Try.prog 13 #[.int .i64 n] w fun e w' => ∃ g B, e = .returned (.pointer (some ⟨g, 0, none⟩)) ∧ RingW w' g B 0 [] ∧ w.heap.size ≤ g ∧ w.heap.size ≤ B ∧ Below w.heap.size w w' := by
  have hu76 := Try.underlying76
  have hu30 := Try.underlying30
  have hmk := run_make_row' (P := Try.prog) 30 5 (.int .u8 0) 1 Try.underlying30 (by kernel_rfl) rfl .i64 .i64 0 (by omega) (by omega)
  rw [Int.natCast_zero] at hmk
  go_enter Try.func13, Try.ntmps13
  go_wp2_with (fail)
  go_ret
  exact ⟨_, _, rfl, new_ring w 0 (by omega), by omega, by omega, new_below _ _ _⟩
set_option maxRecDepth 100000 in
theorem ring_New_high (n : Int) (M : Nat) (hM : M = 65536) (h : 65536 < n) (w : World) :
    Calls Try.prog 13 #[.int .i64 n] w fun e w' => ∃ g B, e = .returned (.pointer (some ⟨g, 0, none⟩)) ∧ RingW w' g B M [] ∧ w.heap.size ≤ g ∧ w.heap.size ≤ B ∧ Below w.heap.size w w' := by
  have hu76 := Try.underlying76
  have hu30 := Try.underlying30
  have hmk := run_make_row' (P := Try.prog) 30 5 (.int .u8 0) 1 Try.underlying30 (by kernel_rfl) rfl .i64 .i64 M (by omega) (by omega)
  rw [show ((M : Nat) : Int) = 65536 by omega] at hmk
  have HM := Lib.hid hM
  clear hM
  go_enter Try.func13, Try.ntmps13
  go_wp2_with (fail)
  go_ret
  have hM := HM.out
  exact ⟨_, _, rfl, new_ring w M (by omega), by omega, by omega, new_below _ _ _⟩
theorem ring_New (n : Int) (w : World) :
    Calls Try.prog 13 #[.int .i64 n] w fun e w' => ∃ g B, e = .returned (.pointer (some ⟨g, 0, none⟩)) ∧ RingW w' g B (min (max n 0) 65536).toNat [] ∧ w.heap.size ≤ g ∧ w.heap.size ≤ B ∧ Below w.heap.size w w' := by
  by_cases h : n < 0
  · rw [show (min (max n 0) 65536).toNat = 0 by omega]
    exact ring_New_low n h w
  · by_cases h2 : 65536 < n
    · rw [show (min (max n 0) 65536).toNat = 65536 by omega]
      exact ring_New_high n 65536 rfl h2 w
    · obtain ⟨m, rfl⟩ := Int.eq_ofNat_of_zero_le (show 0 ≤ n by omega)
      rw [show (min (max (m : Int) 0) 65536).toNat = m by omega]
      exact ring_New_mid m (by omega) w
end Go.Proofs.Ytakiojmjalbfpaa.Ring
set_option linter.unusedVariables false
set_option linter.unusedSimpArgs false
namespace Go.Proofs.Ytakiojmjalbfpaa.Ring
open Go.RowKit Go.Proofs.YtakiojmjalbfpaaW.PrintWords Go.Proofs.YtakiojmjalbfpaaW.PrintLast Go.Proofs.YtakiojmjalbfpaaW.PrintMore
attribute [local go_sem] plus_setCell_drewN plus_cell_same
theorem ring_Look (w : World) (g B M : Nat) (q : List Int) (h : RingW w g B M q) (n : Int) :
    Calls Try.prog 21 #[.pointer (some ⟨g, 0, none⟩), .int .i64 n] w fun e w' => ∃ v, e = .returned v ∧ Kd.R (Kd.int .u8) 5 w' w.heap.size (fun _ => True) v (q.take n.toNat) ∧ Below w.heap.size w w' := by
  have hu76 := Try.underlying76
  have hu30 := Try.underlying30
  have hgB := h.ne
  obtain ⟨f, bs, hg, hB, hl, hM, hq, hf, hc⟩ := h.ex
  have hlt := h.lt
  obtain ⟨c0, c1, c2⟩ := blkc3 hg
  obtain ⟨m, hm⟩ : ∃ m, m = min n.toNat q.length := ⟨_, rfl⟩
  have hmk := run_make_row' (P := Try.prog) 30 5 (.int .u8 0) 1 Try.underlying30 (by kernel_rfl) rfl .i64 .i64 m (by omega) (by omega)
  obtain ⟨n1, hn1⟩ : ∃ n1 : Int, n1 = max n 0 := ⟨_, rfl⟩
  have hmn : (m : Int) = min n1 (q.length : Int) := by omega
  obtain ⟨d, hd⟩ : ∃ d, d = min (M - f) m := ⟨_, rfl⟩
  obtain ⟨A1, hA1, hsl⟩ := cut_low B f M M (by omega) (Nat.le_refl _)
  obtain ⟨A2, hA2, hsl2⟩ := cut_low w.heap.size d m m (by omega) (Nat.le_refl _)
  have N1 := Lib.hid hn1
  have N2 := Lib.hid hmn
  have N3 := Lib.hid hm
  have N4 := Lib.hid hg
  have N5 := Lib.hid hB
  have N6 := Lib.hid hl
  have N7 := Lib.hid hc
  have N8 := Lib.hid hd
  have N9 := Lib.hid hA1
  have N10 := Lib.hid hA2
  clear hn1 hmn hm hg hB hl hc hd hA1 hA2
  go_enter Try.func21, Try.ntmps21
  go_wp2_with (first | ((with_reducible refine gate_dst (N := 8) rfl ?_); refine wl_max rfl (.tmp 7) (.const (.int .i64 0)) _ rfl .i64 n 0 n1 rfl rfl N1.out ?_) | ((with_reducible refine gate_dst (N := 13) rfl ?_); refine wl_min rfl (.tmp 8) (.tmp 12) _ rfl .i64 n1 q.length m rfl rfl N2.out ?_))
  have D1 := Lib.hid (blk_alloc N4.out (.cells (madeCells #[Value.int IntKind.u8 0] m) 5))
  have D2 := Lib.hid (blk_alloc N5.out (.cells (madeCells #[Value.int IntKind.u8 0] m) 5))
  have D3 := Lib.hid (made_blk w m)
  have D4 := Lib.hid ((Below.refl w.heap.size w).alloc (Nat.le_refl _) (.cells (madeCells #[Value.int IntKind.u8 0] m) 5))
  generalize hw1 : w.alloc (.cells (madeCells #[Value.int IntKind.u8 0] m) 5) = w1 at *
  clear hw1
  obtain ⟨e0, e1, e2⟩ := blkc3 D1.out
  go_region_law (refine wl_copy_step (by rfl) (.tmp 15) (.tmp 24) 30 30 rfl Try.underlying30 (by kernel_rfl) w.heap.size 0 m m (M - f) (M - f) _ _ (List.replicate m 0) (bs.drop f) d N8.out rfl rfl D3.out (fun _ => rfl) (by simp) (C_tail D2.out N6.out hM N9.out) ?_; intro w2 hH hG; have E3 := Lib.hid hH; have E1 := Lib.hid (blk_grown (w := w1.drew) D1.out hG (by simp; omega)); have E2 := Lib.hid (blk_grown (w := w1.drew) D2.out hG (by simp; omega)); have E4 := Lib.hid (Below.grown (below_drew D4.out) hG (below_drew D4.out).size (fun k hk => by injection hk with hk; omega)); clear hH hG D1 D2 D3 D4 e0 e1 e2)
  all_goals
    go_wp2
    obtain ⟨e0, e1, e2⟩ := blkc3 E1.out
    go_region_law (refine wl_copy_step (by rfl) (.tmp 28) (.tmp 32) 30 30 rfl Try.underlying30 (by kernel_rfl) w.heap.size d (m - d) (m - d) M M _ _ (Kd.laid (List.replicate m 0) 0 d (bs.drop f)) bs (m - d) (by have := N3.out; omega) rfl rfl E3.out N10.out (by rw [Kd.laid_length _ _ _ _ (by simp; have := N8.out; omega) (by simp; have := N8.out; have := N6.out; omega)]; simp; have := N8.out; omega) (C_tail (f := 0) E2.out N6.out hM (fun _ => rfl)) ?_; intro w3 hH hG; have F3 := Lib.hid hH; have F4 := Lib.hid (Below.grown (below_drew E4.out) hG (below_drew E4.out).size (fun k hk => by injection hk with hk; omega)); clear hH hG E1 E2 E3 E4 e0 e1 e2)
    all_goals
      go_wp2
      go_ret
      have hLL := look_list bs q f M m d N6.out hq hf (by have := N3.out; omega) N8.out N7.out
      have hR := F3.out
      rw [hLL] at hR
      have hlm : (q.take m).length = m := by rw [List.length_take]; have := N3.out; omega
      have hqt : q.take n.toNat = q.take m := by rw [N3.out, List.take_eq_take_min]
      have hRR := R_bytes (base := w.heap.size) (ok := fun _ => True) hR (Nat.le_refl _) (by rw [hlm]; have := N3.out; omega) trivial
      rw [hlm] at hRR
      exact ⟨_, rfl, by rw [hqt]; exact hRR, F4.out⟩
end Go.Proofs.Ytakiojmjalbfpaa.Ring
