-- written by a program of this session (wip/pp) over the kit's print.py; Lean checks it
import Derived.Test.YtkfdombneaikfaaPWordLx0
namespace Go.Proofs.Ytkfdombneaikfaa.PWordL
open Go.RowKit Go.Proofs.YtkfdombneaikfaaW.PrintWords Go.Proofs.YtkfdombneaikfaaW.PrintLast Go.Proofs.YtkfdombneaikfaaW.PrintMore
attribute [local go_sem] max2_int min2_int max_two min_two max_three min_three max_four min_four plus_setCell_drewN plus_cell_same   -- for this text's walks alone
set_option linter.unusedVariables false
set_option linter.unusedSimpArgs false

/-! ### busbarref1_Put: function 21 -/
def busbarref1_Put.f (l0 : List Int) (a1 : Int) : Option (List Int) := if ([] : List Int).length + l0.length < 140737488355328 then ((some (([] : List Int) ++ l0 : List Int)).bind fun y140 => ((some (([(IntKind.u16.wrap (Int.tdiv a1 256)) % 256, (Int.tmod a1 256) % 256] : List Int) : List Int)).bind fun y143 => (if y140.length + y143.length < 140737488355328 then (some (y140 ++ y143)) else (none)))) else (none)
set_option maxHeartbeats 8000000 in
set_option maxRecDepth 100000 in
theorem busbarref1_Put.calls (A0 : Option Addr) (c0 : Nat) (l0 : List Int) (a1 : Int) (r : List Int) (w : World) (hr0 : Kd.C (Kd.int .u8) w A0 l0.length l0) (hc0 : l0.length ≤ c0) (h : busbarref1_Put.f l0 a1 = some r) :
  Calls Try.prog 21 #[.slice A0 l0.length c0, .int .u16 a1] w fun e w' => ∃ v0_ : Value, e = .returned (v0_) ∧ Kd.R (Kd.int .u8) 5 w' w.heap.size (fun _ => True) v0_ r ∧ Below w.heap.size w w' := by
 have HR0 := Aside0.mk hr0
 have HC0 := Aside0.mk hc0
 clear hr0 hc0
 have HB := Aside0.mk (Below.refl w.heap.size w)
 have H : (if ([] : List Int).length + l0.length < 140737488355328 then ((some (([] : List Int) ++ l0 : List Int)).bind fun y140 => ((some (([(IntKind.u16.wrap (Int.tdiv a1 256)) % 256, (Int.tmod a1 256) % 256] : List Int) : List Int)).bind fun y143 => (if y140.length + y143.length < 140737488355328 then (some (y140 ++ y143)) else (none)))) else (none)) = some r := h
 clear h
 by_cases c3 : ([] : List Int).length + l0.length < 140737488355328
 ·
  rw [if_pos c3] at H
  have LMc3 := Aside0.mk c3
  clear c3
  obtain ⟨y140, hy140⟩ : ∃ y_ : List Int, y_ = (([] : List Int) ++ l0) := ⟨_, rfl⟩
  replace H : ((some (([(IntKind.u16.wrap (Int.tdiv a1 256)) % 256, (Int.tmod a1 256) % 256] : List Int) : List Int)).bind fun y143 => (if y140.length + y143.length < 140737488355328 then (some (y140 ++ y143)) else (none))) = some r := by first | (rw [hy140]; with_reducible exact H) | (have H2_ := (Option.bind_some _ _).symm.trans H; rw [hy140]; with_reducible exact H2_) | (have H2_ := (Option.bind_some _ _).symm.trans H; with_reducible exact H2_) | with_reducible exact H | (rw [hy140]; exact H) | exact H
  have Ny140 := Aside0.mk hy140
  clear hy140
  obtain ⟨y143, hy143⟩ : ∃ y_ : List Int, y_ = (([(IntKind.u16.wrap (Int.tdiv a1 256)) % 256, (Int.tmod a1 256) % 256] : List Int)) := ⟨_, rfl⟩
  replace H : (if y140.length + y143.length < 140737488355328 then (some (y140 ++ y143)) else (none)) = some r := by first | (rw [hy143]; with_reducible exact H) | (have H2_ := (Option.bind_some _ _).symm.trans H; rw [hy143]; with_reducible exact H2_) | (have H2_ := (Option.bind_some _ _).symm.trans H; with_reducible exact H2_) | with_reducible exact H | (rw [hy143]; exact H) | exact H
  have Ny143 := Aside0.mk hy143
  clear hy143
  by_cases c4 : y140.length + y143.length < 140737488355328
  ·
   rw [if_pos c4] at H
   have LMc4 := Aside0.mk c4
   clear c4
   obtain ⟨y146, hy146⟩ : ∃ y_ : List Int, y_ = (y140 ++ y143) := ⟨_, rfl⟩
   replace H : (some y146) = some r := by first | (rw [hy146]; with_reducible exact H) | (have H2_ := (Option.bind_some _ _).symm.trans H; rw [hy146]; with_reducible exact H2_) | (have H2_ := (Option.bind_some _ _).symm.trans H; with_reducible exact H2_) | with_reducible exact H | (rw [hy146]; exact H) | exact H
   have Ny146 := Aside0.mk hy146
   clear hy146
   obtain rfl := Option.some.inj H
   go_enter Try.func21, Try.ntmps21
   go_wp2_with (first | ((with_reducible refine gate_builtin (b := .append) (xs := #[.const (.slice none 0 0), .tmp 5]) rfl ?_); at_builtin; refine Kd.R_append_rows (Kd.int .u8) (w0 := w) w.heap.size rfl (.const (.slice none 0 0)) (.tmp 5) 29 5 (.int .u8 0) 1 rfl Try.underlying29 info5 rfl (by decide) (by omega) (.slice none 0 0) ([] : List Int) l0 _ _ _ (fun _ => True) (fun _ => False) rfl rfl ?aO ?aR (fun _ _ h => h) (fun _ h => h.elim) ?aF ?aB ?aS ?aL ?_; (case aR => repeat (first | exact HR0.out | (with_reducible refine Kd.C_alloc ?_ _) | (with_reducible refine Kd.C_drewN ?_ _) | (with_reducible refine Kd.C_drew ?_))); (case aB => exact (by repeat (first | (with_reducible first | exact HB.out | apply below_alloc | apply pw_below_drewN | apply below_drew1) | exact HB.out))); (case aF => exact (fun _ _ => trivial)); (case aO => exact ((Kd.R_nil _ _ _ _ (fun _ => True)))); (case aS => exact (below_size (by repeat (first | (with_reducible first | exact HB.out | apply below_alloc | apply pw_below_drewN | apply below_drew1) | exact HB.out)))); (case aL => have := LMc3.out; omega); intro v141 w5 ho hb hg hat; rw [← Ny140.out] at ho; have n0_ := Aside0.mk (hb); have n1_ := Aside0.mk (ho); clear HB; have HB := n0_; have HO142 := n1_; clear n0_ n1_; clear ho hb hg hat) | ((with_reducible refine gate_dst (N := 13) rfl ?_); refine Kd.R_lit (Kd.int .u8) _ 5 ?hg (N := 13) ?hd (xs := ([(IntKind.u16.wrap (Int.tdiv a1 256)) % 256, (Int.tmod a1 256) % 256] : List Int)) (inner := [.int .u8 ((IntKind.u16.wrap (Int.tdiv a1 256)) % 256), .int .u8 ((Int.tmod a1 256) % 256)]) (ok := fun _ => True) (okp := fun _ => True) ?hr ?hp (fun _ hk => hk) trivial (Below.refl _ _) (Nat.le_refl _) (by simp) ?_; (case hd => rfl); (case hg => rfl); (case hr => first | (go_simp; done) | (go_simp; rfl)); (case hp => exact (Reps.one (show Kd.M (Kd.int .u8) _ _ _ ((IntKind.u16.wrap (Int.tdiv a1 256)) % 256) [.int .u8 ((IntKind.u16.wrap (Int.tdiv a1 256)) % 256)] from rfl) (Reps.one (show Kd.M (Kd.int .u8) _ _ _ ((Int.tmod a1 256) % 256) [.int .u8 ((Int.tmod a1 256) % 256)] from rfl) (Reps.none _ _)))); intro v144 w6 ho7 hb hg_ hnew_; clear hg_ hnew_; (first | rw [← Ny143.out] at ho7 | (simp only [Int.reduceToNat] at ho7; rw [← Ny143.out] at ho7)); have n0_ := Aside0.mk (Kd.R_elder' (by (with_reducible repeat (first | apply Kd.R_alloc | apply Kd.R_drewN | apply Kd.R_drew)); exact HO142.out) (Kd.R_base ho7) hb); have n1_ := Aside0.mk (Kd.R_lower (Kd.R_new' ho7 (Kd.R_lt (by (with_reducible repeat (first | apply Kd.R_alloc | apply Kd.R_drewN | apply Kd.R_drew)); exact HO142.out))) (below_size (by repeat (first | (with_reducible first | exact HB.out | apply below_alloc | apply pw_below_drewN | apply below_drew1) | exact HB.out)))); have n2_ := Aside0.mk (below_step (by repeat (first | (with_reducible first | exact HB.out | apply below_alloc | apply pw_below_drewN | apply below_drew1) | exact HB.out)) hb); clear HO142; clear HB; have HO142 := n0_; have HO145 := n1_; have HB := n2_; clear n0_ n1_ n2_; clear hb ho7; obtain ⟨Ao9, co9, eo9⟩ := Kd.R_slice HO145.out; subst eo9) | ((with_reducible refine gate_builtin (b := .append) (xs := #[.tmp 6, .tmp 13]) rfl ?_); at_builtin; refine Kd.R_append_rows (Kd.int .u8) (w0 := w) w.heap.size rfl (.tmp 6) (.tmp 13) 29 5 (.int .u8 0) 1 rfl Try.underlying29 info5 rfl (by decide) (by omega) v141 y140 y143 _ _ _ (fun k_ => some k_ ≠ (.slice Ao9 y143.length co9 : Value).ownBlock) (fun _ => False) rfl rfl ?aO ?aR (fun _ _ h => h) (fun _ h => h.elim) ?aF ?aB ?aS ?aL ?_; (case aR => repeat (first | exact (Kd.R_reads' HO145.out).2.2 | (with_reducible refine Kd.C_alloc ?_ _) | (with_reducible refine Kd.C_drewN ?_ _) | (with_reducible refine Kd.C_drew ?_))); (case aB => exact (by repeat (first | (with_reducible first | exact HB.out | apply below_alloc | apply pw_below_drewN | apply below_drew1) | exact HB.out))); (case aF => exact (fun k_ hk => Kd.fresh' (Kd.R_lt (by (with_reducible repeat (first | apply Kd.R_alloc | apply Kd.R_drewN | apply Kd.R_drew)); exact HO145.out)) k_ hk)); (case aO => exact (by (with_reducible repeat (first | apply Kd.R_alloc | apply Kd.R_drewN | apply Kd.R_drew)); exact Kd.R_mono HO142.out (fun _ hk => hk.2))); (case aS => exact (below_size (by repeat (first | (with_reducible first | exact HB.out | apply below_alloc | apply pw_below_drewN | apply below_drew1) | exact HB.out)))); (case aL => have := LMc4.out; omega); intro v147 w8 ho hb hg hat; rw [← Ny146.out] at ho; have n0_ := Aside0.mk (Kd.R_after (ok := (fun _ => True)) (by (with_reducible repeat (first | apply Kd.R_alloc | apply Kd.R_drewN | apply Kd.R_drew)); exact HO145.out) hg hat); have n1_ := Aside0.mk (hb); have n2_ := Aside0.mk (ho); clear HO145; clear HB; clear HO142; have HO145 := n0_; have HB := n1_; have HO148 := n2_; clear n0_ n1_ n2_; clear ho hb hg hat))
   go_ret
   exact ⟨_, by first | rfl | (simp [errW_none, errW_some] <;> rfl) | (simp [*, errW_none, errW_some] <;> rfl), by (with_reducible repeat (first | apply Kd.R_alloc | apply Kd.R_drewN | apply Kd.R_drew)); exact Kd.R_mono HO148.out (fun _ hk => trivial), by repeat (first | (with_reducible first | exact HB.out | apply below_alloc | apply pw_below_drewN | apply below_drew1) | exact HB.out)⟩
  ·
   rw [if_neg c4] at H
   exact absurd H (by simp)
 ·
  rw [if_neg c3] at H
  exact absurd H (by simp)

/-! ### busbarlaw0_StaysBytes: function 22 -/
def busbarlaw0_StaysBytes.l0 : Nat → List Int → List Int → Int → Option (Bool)
 | 0, _, _, _ => none
 | k + 1, x1, x5, x6 => if x6 < (x5.length : Int) then (if x6 < (x1.length : Int) then (if 0 ≤ x6 then (if (rd x5 x6) = (rd x1 x6) then (if x6 ≥ (x1.length : Int) then (if (rd x5 x6) = 165 then (busbarlaw0_StaysBytes.l0 k x1 x5 (wrap64 (x6 + 1))) else (some false)) else (busbarlaw0_StaysBytes.l0 k x1 x5 (wrap64 (x6 + 1)))) else (some false)) else (none)) else (if x6 ≥ (x1.length : Int) then (if 0 ≤ x6 then (if (rd x5 x6) = 165 then (busbarlaw0_StaysBytes.l0 k x1 x5 (wrap64 (x6 + 1))) else (some false)) else (none)) else (busbarlaw0_StaysBytes.l0 k x1 x5 (wrap64 (x6 + 1))))) else (some true)
def busbarlaw0_StaysBytes.f (k : Nat) (l0 : List Int) (l1 : List Int) : Option (Bool) := if (l0.length : Int) = (l1.length : Int) then (if 0 ≤ (wrap64 ((l1.length : Int) + 3)) then (if (wrap64 ((l1.length : Int) + 3)) = ((l0 ++ Kd.marks (Kd.int .u8)).length : Int) then (busbarlaw0_StaysBytes.l0 k l1 (l0 ++ Kd.marks (Kd.int .u8)) 0) else (none)) else (none)) else (some false)
theorem busbarlaw0_StaysBytes.mono_l : ∀ k, (∀ y0 y1 y2, LeO (busbarlaw0_StaysBytes.l0 k y0 y1 y2) (busbarlaw0_StaysBytes.l0 (k + 1) y0 y1 y2))
 | 0 => fun _ _ _ r h => by simp [busbarlaw0_StaysBytes.l0] at h
 | k + 1 => by
  have ih0 := busbarlaw0_StaysBytes.mono_l k
  ·
   intro y0 y1 y2
   unfold busbarlaw0_StaysBytes.l0
   repeat' first
   | (with_reducible exact ih0 _ _ _)
   | (with_reducible exact LeO.refl _)
   | (with_reducible exact LeO.none _)
   | (with_reducible refine LeO.ite ?_ ?_)
   | (with_reducible refine LeO.bind ?_ (fun _ => ?_))
   | exact ih0 _ _ _
   | exact LeO.none _
   | refine LeO.ite ?_ ?_
   | refine LeO.bind ?_ (fun _ => ?_)
theorem busbarlaw0_StaysBytes.mono : ∀ a0 a1 k, LeO (busbarlaw0_StaysBytes.f k a0 a1) (busbarlaw0_StaysBytes.f (k + 1) a0 a1) := by
 intro a0 a1 k
 have ih0 := busbarlaw0_StaysBytes.mono_l k
 unfold busbarlaw0_StaysBytes.f
 repeat' first
   | (with_reducible exact ih0 _ _ _)
   | (with_reducible exact LeO.refl _)
   | (with_reducible exact LeO.none _)
   | (with_reducible refine LeO.ite ?_ ?_)
   | (with_reducible refine LeO.bind ?_ (fun _ => ?_))
   | exact ih0 _ _ _
   | exact LeO.none _
   | refine LeO.ite ?_ ?_
   | refine LeO.bind ?_ (fun _ => ?_)
set_option maxHeartbeats 8000000 in
set_option maxRecDepth 100000 in
theorem busbarlaw0_StaysBytes.calls (k : Nat) (A0 : Option Addr) (c0 : Nat) (l0 : List Int) (A1 : Option Addr) (c1 : Nat) (l1 : List Int) (r : Bool) (w : World) (hr0 : Kd.C (Kd.int .u8) w A0 (l0 ++ Kd.marks (Kd.int .u8)).length (l0 ++ Kd.marks (Kd.int .u8))) (hc0 : (l0 ++ Kd.marks (Kd.int .u8)).length ≤ c0) (hr1 : Kd.C (Kd.int .u8) w A1 l1.length l1) (hc1 : l1.length ≤ c1) (h : busbarlaw0_StaysBytes.f k l0 l1 = some r) :
  Calls Try.prog 22 #[.slice A0 l0.length c0, .slice A1 l1.length c1] w fun e w' => e = .returned (.bool r) ∧ Drawn0 w w' := by
 have HX0 := Aside0.mk hr0
 have HXC0 := Aside0.mk hc0
 have HR0 := Aside0.mk (show Kd.C (Kd.int .u8) w A0 l0.length l0 from by have h3_ := Kd.C_take (m := l0.length) hr0 (by simp); rwa [List.take_left] at h3_)
 have HC0 := Aside0.mk (show l0.length ≤ c0 from by rw [List.length_append] at hc0; omega)
 clear hr0 hc0
 have HR1 := Aside0.mk hr1
 have HC1 := Aside0.mk hc1
 clear hr1 hc1
 have H : (if (l0.length : Int) = (l1.length : Int) then (if 0 ≤ (wrap64 ((l1.length : Int) + 3)) then (if (wrap64 ((l1.length : Int) + 3)) = ((l0 ++ Kd.marks (Kd.int .u8)).length : Int) then (busbarlaw0_StaysBytes.l0 k l1 (l0 ++ Kd.marks (Kd.int .u8)) 0) else (none)) else (none)) else (some false)) = some r := h
 clear h
 by_cases c3 : (l0.length : Int) = (l1.length : Int)
 ·
  rw [if_pos c3] at H
  have c3b0 : ((l0.length : Int) == (l1.length : Int)) = true := beq_iff_eq.mpr c3
  have c3b1 : ((l0.length : Int) != (l1.length : Int)) = false := bne_eq_false_iff_eq.mpr c3
  have c3b2 : (l0.length == l1.length) = true := by first | simpa using c3 | (simp at c3 ⊢; omega)
  clear c3
  obtain ⟨ji4, hji4⟩ : ∃ j_ : Int, (wrap64 ((l1.length : Int) + 3)) = j_ := ⟨_, rfl⟩
  replace H : (if 0 ≤ (ji4) then (if (ji4) = ((l0 ++ Kd.marks (Kd.int .u8)).length : Int) then (busbarlaw0_StaysBytes.l0 k l1 (l0 ++ Kd.marks (Kd.int .u8)) 0) else (none)) else (none)) = some r := by first | (rw [hji4] at H; exact H) | (simp only [hji4] at H ⊢; exact H)
  have hji4w : (IntKind.i64.wrap ((l1.length : Int) + 3)) = ji4 := (i64_w _).trans hji4
  by_cases c5 : 0 ≤ (ji4)
  ·
   rw [if_pos c5] at H
   have c5b0 := eq_true c5
   have c5b1 : decide (0 ≤ (ji4)) = true := decide_eq_true c5
   clear c5
   by_cases c6 : (ji4) = ((l0 ++ Kd.marks (Kd.int .u8)).length : Int)
   ·
    rw [if_pos c6] at H
    have c6b0 := eq_true c6
    have c6b1 : decide ((ji4) = ((l0 ++ Kd.marks (Kd.int .u8)).length : Int)) = true := decide_eq_true c6
    obtain ⟨y149, hy149⟩ : ∃ y_ : List Int, y_ = (l0 ++ Kd.marks (Kd.int .u8)) := ⟨_, rfl⟩
    replace H : (busbarlaw0_StaysBytes.l0 k l1 y149 0) = some r := by first | (rw [hy149]; with_reducible exact H) | (have H2_ := (Option.bind_some _ _).symm.trans H; rw [hy149]; with_reducible exact H2_) | (have H2_ := (Option.bind_some _ _).symm.trans H; with_reducible exact H2_) | with_reducible exact H | (rw [hy149]; exact H) | exact H
    have Ny149 := Aside0.mk hy149
    clear hy149
    have H' := Aside0.mk H
    clear H
    obtain ⟨i07, hi07, _, hsz7, _⟩ := info_parts info5
    have hj7 : (ji4) = ((l0 ++ Kd.marks (Kd.int .u8)).length : Int) := of_decide_eq_true (by first | (with_reducible assumption) | assumption)
    rw [← Ny149.out] at hj7
    have HR152 := Aside0.mk (show Kd.C (Kd.int .u8) w A0 y149.length y149 from by rw [Ny149.out]; exact HX0.out)
    have HC152 := Aside0.mk (show y149.length ≤ c0 from by rw [Ny149.out]; exact HXC0.out)
    have hcut7 := cut_over (P := Try.prog) 29 5 .i64 Try.underlying29 hi07 A0 l0.length y149.length c0 (ji4) hj7 HC152.out
    clear hi07 hsz7 hj7
    (try clear c6b0)
    (try clear c6b1)
    (try clear c6)
    go_enter Try.func22, Try.ntmps22
    go_wp2
    repeat (go_quiet (fail); try go_wp2)
    go_loopg [6] k (fun kq v6 w' => ∃ (x6_1 : Int), v6 = .int .i64 x6_1 ∧ Aside0 (busbarlaw0_StaysBytes.l0 kq l1 y149 x6_1 = some r) ∧ Aside0 (kq ≤ k) ∧ Drawn0 w w')
    case atStart => exact ⟨(0), (by first | rfl | (simp; done) | (simp [*]; done)), H', ⟨Nat.le_refl _⟩, by repeat (first | exact Drawn0.refl _ | apply Drawn0.step)⟩
    case round =>
     clear H'
     try clear c1
     try clear c2
     try clear p2
     try clear c3
     try clear c3b0
     try clear c3b1
     try clear c3b2
     try clear c5
     try clear c5b0
     try clear c5b1
     try clear c6
     try clear c6b0
     try clear c6b1
     try clear p6
     obtain ⟨x6_1, rfl, HA, HK1, ⟨m1, rfl⟩⟩ := hrel
     cases gk with
     | zero => exact absurd HA.out (by simp [busbarlaw0_StaysBytes.l0])
     | succ k1 =>
      have H := HA.out
      clear HA
      simp only [busbarlaw0_StaysBytes.l0] at H
      by_cases c8 : x6_1 < (y149.length : Int)
      ·
       rw [if_pos c8] at H
       have c8b0 : decide (x6_1 < (y149.length : Int)) = true := decide_eq_true c8
       clear c8
       by_cases c9 : x6_1 < (l1.length : Int)
       ·
        rw [if_pos c9] at H
        have c9b0 : decide (x6_1 < (l1.length : Int)) = true := decide_eq_true c9
        clear c9
        by_cases c10 : 0 ≤ x6_1
        ·
         rw [if_pos c10] at H
         have c10b0 : decide (0 ≤ x6_1) = true := decide_eq_true c10
         clear c10
         by_cases c11 : (rd y149 x6_1) = (rd l1 x6_1)
         ·
          rw [if_pos c11] at H
          have c11b0 : ((rd y149 x6_1) == (rd l1 x6_1)) = true := beq_iff_eq.mpr c11
          have c11b1 : ((rd y149 x6_1) != (rd l1 x6_1)) = false := bne_eq_false_iff_eq.mpr c11
          clear c11
          by_cases c12 : x6_1 ≥ (l1.length : Int)
          ·
           rw [if_pos c12] at H
           have c12b0 : decide ((l1.length : Int) ≤ x6_1) = true := decide_eq_true c12
           clear c12
           by_cases c13 : (rd y149 x6_1) = 165
           ·
            rw [if_pos c13] at H
            have c13b0 : ((rd y149 x6_1) == 165) = true := beq_iff_eq.mpr c13
            have c13b1 : ((rd y149 x6_1) != 165) = false := bne_eq_false_iff_eq.mpr c13
            clear c13
            have H' := Aside0.mk H
            clear H
            have p153 : 0 ≤ (x6_1 : Int) := of_decide_eq_true (by first | (with_reducible assumption) | assumption)
            have q153 : x6_1 < (y149.length : Int) := of_decide_eq_true (by first | (with_reducible assumption) | assumption)
            obtain ⟨ad153, e153, hx153_0⟩ := Kd.at_int HR152.out x6_1 p153 q153
            cases e153
            replace p153 := eq_true p153
            replace q153 := eq_true q153
            have p154 : 0 ≤ (x6_1 : Int) := of_decide_eq_true (by first | (with_reducible assumption) | assumption)
            have q154 : x6_1 < (l1.length : Int) := of_decide_eq_true (by first | (with_reducible assumption) | assumption)
            obtain ⟨ad154, e154, hx154_0⟩ := Kd.at_int HR1.out x6_1 p154 q154
            cases e154
            replace p154 := eq_true p154
            replace q154 := eq_true q154
            have p155 : 0 ≤ (x6_1 : Int) := of_decide_eq_true (by first | (with_reducible assumption) | assumption)
            have q155 : x6_1 < (y149.length : Int) := of_decide_eq_true (by first | (with_reducible assumption) | assumption)
            obtain ⟨ad155, e155, hx155_0⟩ := Kd.at_int HR152.out x6_1 p155 q155
            obtain rfl : ad153 = ad155 := (by injection e155)
            replace p155 := eq_true p155
            replace q155 := eq_true q155
            go_wp2
            repeat (go_quiet (fail); try go_wp2)
            go_roundg k1
            case measure => have := HK1.out; omega
            case rel => exact ⟨(wrap64 (x6_1 + 1)), (by first | rfl | (simp; done) | (simp [*]; done)), H', ⟨by have := HK1.out; omega⟩, by repeat (first | exact Drawn0.refl _ | apply Drawn0.step)⟩
           ·
            rw [if_neg c13] at H
            have c13b0 : ((rd y149 x6_1) == 165) = false := beq_eq_false_iff_ne.mpr c13
            have c13b1 : ((rd y149 x6_1) != 165) = true := bne_iff_ne.mpr c13
            obtain rfl := Option.some.inj H
            have p153 : 0 ≤ (x6_1 : Int) := of_decide_eq_true (by first | (with_reducible assumption) | assumption)
            have q153 : x6_1 < (y149.length : Int) := of_decide_eq_true (by first | (with_reducible assumption) | assumption)
            obtain ⟨ad153, e153, hx153_0⟩ := Kd.at_int HR152.out x6_1 p153 q153
            cases e153
            replace p153 := eq_true p153
            replace q153 := eq_true q153
            have p154 : 0 ≤ (x6_1 : Int) := of_decide_eq_true (by first | (with_reducible assumption) | assumption)
            have q154 : x6_1 < (l1.length : Int) := of_decide_eq_true (by first | (with_reducible assumption) | assumption)
            obtain ⟨ad154, e154, hx154_0⟩ := Kd.at_int HR1.out x6_1 p154 q154
            cases e154
            replace p154 := eq_true p154
            replace q154 := eq_true q154
            have p155 : 0 ≤ (x6_1 : Int) := of_decide_eq_true (by first | (with_reducible assumption) | assumption)
            have q155 : x6_1 < (y149.length : Int) := of_decide_eq_true (by first | (with_reducible assumption) | assumption)
            obtain ⟨ad155, e155, hx155_0⟩ := Kd.at_int HR152.out x6_1 p155 q155
            obtain rfl : ad153 = ad155 := (by injection e155)
            replace p155 := eq_true p155
            replace q155 := eq_true q155
            go_wp2
            repeat (go_quiet (fail); try go_wp2)
            go_ret
            exact ⟨by first | rfl | (simp; done) | (simp only [← hji4] <;> (first | rfl | simp)) | (simp [*]; done), by repeat (first | exact Drawn0.refl _ | apply Drawn0.step)⟩
          ·
           rw [if_neg c12] at H
           have c12b0 : decide ((l1.length : Int) ≤ x6_1) = false := decide_eq_false c12
           clear c12
           have H' := Aside0.mk H
           clear H
           have p153 : 0 ≤ (x6_1 : Int) := of_decide_eq_true (by first | (with_reducible assumption) | assumption)
           have q153 : x6_1 < (y149.length : Int) := of_decide_eq_true (by first | (with_reducible assumption) | assumption)
           obtain ⟨ad153, e153, hx153_0⟩ := Kd.at_int HR152.out x6_1 p153 q153
           cases e153
           replace p153 := eq_true p153
           replace q153 := eq_true q153
           have p154 : 0 ≤ (x6_1 : Int) := of_decide_eq_true (by first | (with_reducible assumption) | assumption)
           have q154 : x6_1 < (l1.length : Int) := of_decide_eq_true (by first | (with_reducible assumption) | assumption)
           obtain ⟨ad154, e154, hx154_0⟩ := Kd.at_int HR1.out x6_1 p154 q154
           cases e154
           replace p154 := eq_true p154
           replace q154 := eq_true q154
           go_wp2
           repeat (go_quiet (fail); try go_wp2)
           go_roundg k1
           case measure => have := HK1.out; omega
           case rel => exact ⟨(wrap64 (x6_1 + 1)), (by first | rfl | (simp; done) | (simp [*]; done)), H', ⟨by have := HK1.out; omega⟩, by repeat (first | exact Drawn0.refl _ | apply Drawn0.step)⟩
         ·
          rw [if_neg c11] at H
          have c11b0 : ((rd y149 x6_1) == (rd l1 x6_1)) = false := beq_eq_false_iff_ne.mpr c11
          have c11b1 : ((rd y149 x6_1) != (rd l1 x6_1)) = true := bne_iff_ne.mpr c11
          obtain rfl := Option.some.inj H
          have p153 : 0 ≤ (x6_1 : Int) := of_decide_eq_true (by first | (with_reducible assumption) | assumption)
          have q153 : x6_1 < (y149.length : Int) := of_decide_eq_true (by first | (with_reducible assumption) | assumption)
          obtain ⟨ad153, e153, hx153_0⟩ := Kd.at_int HR152.out x6_1 p153 q153
          cases e153
          replace p153 := eq_true p153
          replace q153 := eq_true q153
          have p154 : 0 ≤ (x6_1 : Int) := of_decide_eq_true (by first | (with_reducible assumption) | assumption)
          have q154 : x6_1 < (l1.length : Int) := of_decide_eq_true (by first | (with_reducible assumption) | assumption)
          obtain ⟨ad154, e154, hx154_0⟩ := Kd.at_int HR1.out x6_1 p154 q154
          cases e154
          replace p154 := eq_true p154
          replace q154 := eq_true q154
          go_wp2
          repeat (go_quiet (fail); try go_wp2)
          go_ret
          exact ⟨by first | rfl | (simp; done) | (simp only [← hji4] <;> (first | rfl | simp)) | (simp [*]; done), by repeat (first | exact Drawn0.refl _ | apply Drawn0.step)⟩
        ·
         rw [if_neg c10] at H
         exact absurd H (by simp)
       ·
        rw [if_neg c9] at H
        have c9b0 : decide (x6_1 < (l1.length : Int)) = false := decide_eq_false c9
        clear c9
        by_cases c14 : x6_1 ≥ (l1.length : Int)
        ·
         rw [if_pos c14] at H
         have c14b0 : decide ((l1.length : Int) ≤ x6_1) = true := decide_eq_true c14
         clear c14
         by_cases c15 : 0 ≤ x6_1
         ·
          rw [if_pos c15] at H
          have c15b0 : decide (0 ≤ x6_1) = true := decide_eq_true c15
          clear c15
          by_cases c16 : (rd y149 x6_1) = 165
          ·
           rw [if_pos c16] at H
           have c16b0 : ((rd y149 x6_1) == 165) = true := beq_iff_eq.mpr c16
           have c16b1 : ((rd y149 x6_1) != 165) = false := bne_eq_false_iff_eq.mpr c16
           clear c16
           have H' := Aside0.mk H
           clear H
           have p156 : 0 ≤ (x6_1 : Int) := of_decide_eq_true (by first | (with_reducible assumption) | assumption)
           have q156 : x6_1 < (y149.length : Int) := of_decide_eq_true (by first | (with_reducible assumption) | assumption)
           obtain ⟨ad156, e156, hx156_0⟩ := Kd.at_int HR152.out x6_1 p156 q156
           cases e156
           replace p156 := eq_true p156
           replace q156 := eq_true q156
           go_wp2
           repeat (go_quiet (fail); try go_wp2)
           go_roundg k1
           case measure => have := HK1.out; omega
           case rel => exact ⟨(wrap64 (x6_1 + 1)), (by first | rfl | (simp; done) | (simp [*]; done)), H', ⟨by have := HK1.out; omega⟩, by repeat (first | exact Drawn0.refl _ | apply Drawn0.step)⟩
          ·
           rw [if_neg c16] at H
           have c16b0 : ((rd y149 x6_1) == 165) = false := beq_eq_false_iff_ne.mpr c16
           have c16b1 : ((rd y149 x6_1) != 165) = true := bne_iff_ne.mpr c16
           obtain rfl := Option.some.inj H
           have p156 : 0 ≤ (x6_1 : Int) := of_decide_eq_true (by first | (with_reducible assumption) | assumption)
           have q156 : x6_1 < (y149.length : Int) := of_decide_eq_true (by first | (with_reducible assumption) | assumption)
           obtain ⟨ad156, e156, hx156_0⟩ := Kd.at_int HR152.out x6_1 p156 q156
           cases e156
           replace p156 := eq_true p156
           replace q156 := eq_true q156
           go_wp2
           repeat (go_quiet (fail); try go_wp2)
           go_ret
           exact ⟨by first | rfl | (simp; done) | (simp only [← hji4] <;> (first | rfl | simp)) | (simp [*]; done), by repeat (first | exact Drawn0.refl _ | apply Drawn0.step)⟩
         ·
          rw [if_neg c15] at H
          exact absurd H (by simp)
        ·
         rw [if_neg c14] at H
         have c14b0 : decide ((l1.length : Int) ≤ x6_1) = false := decide_eq_false c14
         clear c14
         have H' := Aside0.mk H
         clear H
         go_wp2
         repeat (go_quiet (fail); try go_wp2)
         go_roundg k1
         case measure => have := HK1.out; omega
         case rel => exact ⟨(wrap64 (x6_1 + 1)), (by first | rfl | (simp; done) | (simp [*]; done)), H', ⟨by have := HK1.out; omega⟩, by repeat (first | exact Drawn0.refl _ | apply Drawn0.step)⟩
      ·
       rw [if_neg c8] at H
       have c8b0 : decide (x6_1 < (y149.length : Int)) = false := decide_eq_false c8
       clear c8
       obtain rfl := Option.some.inj H
       go_wp2
       repeat (go_quiet (fail); try go_wp2)
       go_ret
       exact ⟨by first | rfl | (simp; done) | (simp only [← hji4] <;> (first | rfl | simp)) | (simp [*]; done), by repeat (first | exact Drawn0.refl _ | apply Drawn0.step)⟩
   ·
    rw [if_neg c6] at H
    exact absurd H (by simp)
  ·
   rw [if_neg c5] at H
   exact absurd H (by simp)
 ·
  rw [if_neg c3] at H
  have c3b0 : ((l0.length : Int) == (l1.length : Int)) = false := beq_eq_false_iff_ne.mpr c3
  have c3b1 : ((l0.length : Int) != (l1.length : Int)) = true := bne_iff_ne.mpr c3
  have c3b2 : (l0.length == l1.length) = false := by first | simpa using c3 | (simp at c3 ⊢; omega)
  obtain rfl := Option.some.inj H
  go_enter Try.func22, Try.ntmps22
  go_wp2
  repeat (go_quiet (fail); try go_wp2)
  go_ret
  exact ⟨by first | rfl | (simp; done) | (simp [*]; done), by repeat (first | exact Drawn0.refl _ | apply Drawn0.step)⟩

end Go.Proofs.Ytkfdombneaikfaa.PWordL
