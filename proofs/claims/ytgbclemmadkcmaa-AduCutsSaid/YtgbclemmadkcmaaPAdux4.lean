-- written by a program of this session (wip/pp) over the kit's print.py; Lean checks it
import Derived.Test.YtgbclemmadkcmaaPAdux0
import Derived.Test.YtgbclemmadkcmaaPAdux3
namespace Go.Proofs.Ytgbclemmadkcmaa.PAdu
open Go.RowKit Go.Proofs.YtgbclemmadkcmaaW.PrintWords Go.Proofs.YtgbclemmadkcmaaW.PrintLast Go.Proofs.YtgbclemmadkcmaaW.PrintMore
attribute [local go_sem] max2_int min2_int max_two min_two max_three min_three max_four min_four plus_setCell_drewN plus_cell_same   -- for this text's walks alone
set_option linter.unusedVariables false
set_option linter.unusedSimpArgs false

/-! ### adu_Bytes: function 14 -/
def adu_Bytes.f (a0_0 : Int) (a0_1 : Int) (l0_2 : List Int) : Option (List Int × Int) := (head_Put.f a0_0 (wrap64 ((l0_2.length : Int) + 1)) a0_1).bind fun bt132 => (if bt132.2 = 0 then (if 0 ≤ (wrap64 (7 + (l0_2.length : Int))) then (if (wrap64 (7 + (l0_2.length : Int)) : Int).toNat ≤ 281474976710656 then ((some (List.replicate (wrap64 (7 + (l0_2.length : Int)) : Int).toNat 0 : List Int)).bind fun y136 => (if 0 < y136.length then ((some (Kd.laid y136 0 (min bt132.1.length y136.length) bt132.1 : List Int)).bind fun y139 => (if 0 ≤ (Kd.cnt bt132.1.length y139.length) then (if (Kd.cnt bt132.1.length y139.length) ≤ (y139.length : Int) then (if 0 < y139.length then (some ((Kd.laid y139 ((Kd.cnt bt132.1.length y139.length) : Int).toNat (min l0_2.length (y139.drop ((Kd.cnt bt132.1.length y139.length) : Int).toNat).length) l0_2), 0)) else (none)) else (none)) else (none))) else (none))) else (none)) else (none)) else (some (([] : List Int), bt132.2)))
def adu_Bytes.T5 : Bool × List (List Nat × List Nat) := (true, [([], []), ([], []), ([], []), ([1, 2], [1, 2]), ([0, 3], [0, 3]), ([], []), ([5], [5]), ([4, 6, 3], [4, 6])])
def adu_Bytes.B5 : List Nat := [0, 0, 0, 6, 15, 0, 32, 127]
theorem adu_Bytes.tab5 : rtab .any (opsOf Try.f14 5) = adu_Bytes.T5 := by kernel_rfl
theorem adu_Bytes.bits5 : waitsOk adu_Bytes.T5.2 adu_Bytes.B5 = true := by kernel_rfl
set_option maxHeartbeats 8000000 in
set_option maxRecDepth 100000 in
theorem adu_Bytes.calls (a0_0 : Int) (a0_1 : Int) (A0_2 : Option Addr) (c0_2 : Nat) (l0_2 : List Int) (r1 : List Int) (r2 : Int) (w : World) (hr0_2 : Kd.C (Kd.int .u8) w A0_2 l0_2.length l0_2) (hc0_2 : l0_2.length ≤ c0_2) (h : adu_Bytes.f a0_0 a0_1 l0_2 = some (r1, r2)) :
  Calls Try.prog 14 #[.agg #[.int .i64 a0_0, .int .i64 a0_1, .slice A0_2 l0_2.length c0_2]] w fun e w' => ∃ v0_ : Value, e = .returned (.tuple #[v0_, .int .i64 r2]) ∧ Kd.R (Kd.int .u8) 5 w' w.heap.size (fun _ => True) v0_ r1 ∧ Below w.heap.size w w' := by
 have hu30 := Try.underlying30
 have hu75 := Try.underlying75
 have HR0_2 := Aside0.mk hr0_2
 have HC0_2 := Aside0.mk hc0_2
 clear hr0_2 hc0_2
 have HB := Aside0.mk (Below.refl w.heap.size w)
 have H : ((head_Put.f a0_0 (wrap64 ((l0_2.length : Int) + 1)) a0_1).bind fun bt132 => (if bt132.2 = 0 then (if 0 ≤ (wrap64 (7 + (l0_2.length : Int))) then (if (wrap64 (7 + (l0_2.length : Int)) : Int).toNat ≤ 281474976710656 then ((some (List.replicate (wrap64 (7 + (l0_2.length : Int)) : Int).toNat 0 : List Int)).bind fun y136 => (if 0 < y136.length then ((some (Kd.laid y136 0 (min bt132.1.length y136.length) bt132.1 : List Int)).bind fun y139 => (if 0 ≤ (Kd.cnt bt132.1.length y139.length) then (if (Kd.cnt bt132.1.length y139.length) ≤ (y139.length : Int) then (if 0 < y139.length then (some ((Kd.laid y139 ((Kd.cnt bt132.1.length y139.length) : Int).toNat (min l0_2.length (y139.drop ((Kd.cnt bt132.1.length y139.length) : Int).toNat).length) l0_2), 0)) else (none)) else (none)) else (none))) else (none))) else (none)) else (none)) else (some (([] : List Int), bt132.2)))) = some (r1, r2) := h
 clear h
 replace H := Option.bind_eq_some_iff.mp H
 obtain ⟨⟨t132, t135⟩, A20, H⟩ := H
 replace H : (if t135 = 0 then (if 0 ≤ (wrap64 (7 + (l0_2.length : Int))) then (if (wrap64 (7 + (l0_2.length : Int)) : Int).toNat ≤ 281474976710656 then ((some (List.replicate (wrap64 (7 + (l0_2.length : Int)) : Int).toNat 0 : List Int)).bind fun y136 => (if 0 < y136.length then ((some (Kd.laid y136 0 (min t132.length y136.length) t132 : List Int)).bind fun y139 => (if 0 ≤ (Kd.cnt t132.length y139.length) then (if (Kd.cnt t132.length y139.length) ≤ (y139.length : Int) then (if 0 < y139.length then (some ((Kd.laid y139 ((Kd.cnt t132.length y139.length) : Int).toNat (min l0_2.length (y139.drop ((Kd.cnt t132.length y139.length) : Int).toNat).length) l0_2), 0)) else (none)) else (none)) else (none))) else (none))) else (none)) else (none)) else (some (([] : List Int), t135))) = some (r1, r2) := H
 have A2 := Aside0.mk A20
 clear A20
 by_cases c3 : t135 = 0
 ·
  rw [if_pos c3] at H
  have c3b0 : (t135 == 0) = true := beq_iff_eq.mpr c3
  have c3b1 : (t135 != 0) = false := bne_eq_false_iff_eq.mpr c3
  clear c3
  obtain ⟨ji4, hji4⟩ : ∃ j_ : Int, (wrap64 (7 + (l0_2.length : Int))) = j_ := ⟨_, rfl⟩
  replace H : (if 0 ≤ (ji4) then (if (ji4 : Int).toNat ≤ 281474976710656 then ((some (List.replicate (ji4 : Int).toNat 0 : List Int)).bind fun y136 => (if 0 < y136.length then ((some (Kd.laid y136 0 (min t132.length y136.length) t132 : List Int)).bind fun y139 => (if 0 ≤ (Kd.cnt t132.length y139.length) then (if (Kd.cnt t132.length y139.length) ≤ (y139.length : Int) then (if 0 < y139.length then (some ((Kd.laid y139 ((Kd.cnt t132.length y139.length) : Int).toNat (min l0_2.length (y139.drop ((Kd.cnt t132.length y139.length) : Int).toNat).length) l0_2), 0)) else (none)) else (none)) else (none))) else (none))) else (none)) else (none)) = some (r1, r2) := by first | (rw [hji4] at H; exact H) | (simp only [hji4] at H ⊢; exact H)
  (try rw [hji4] at A2)
  have hji4w : (IntKind.i64.wrap (7 + (l0_2.length : Int))) = ji4 := (i64_w _).trans hji4
  by_cases c5 : 0 ≤ (ji4)
  ·
   rw [if_pos c5] at H
   have c5b0 := eq_true c5
   have c5b1 : decide (0 ≤ (ji4)) = true := decide_eq_true c5
   clear c5
   by_cases c6 : (ji4 : Int).toNat ≤ 281474976710656
   ·
    rw [if_pos c6] at H
    have c6b0 := eq_true c6
    have c6b1 : decide ((ji4 : Int).toNat ≤ 281474976710656) = true := decide_eq_true c6
    clear c6
    obtain ⟨y136, hy136⟩ : ∃ y_ : List Int, y_ = (List.replicate (ji4 : Int).toNat 0) := ⟨_, rfl⟩
    replace H : (if 0 < y136.length then ((some (Kd.laid y136 0 (min t132.length y136.length) t132 : List Int)).bind fun y139 => (if 0 ≤ (Kd.cnt t132.length y139.length) then (if (Kd.cnt t132.length y139.length) ≤ (y139.length : Int) then (if 0 < y139.length then (some ((Kd.laid y139 ((Kd.cnt t132.length y139.length) : Int).toNat (min l0_2.length (y139.drop ((Kd.cnt t132.length y139.length) : Int).toNat).length) l0_2), 0)) else (none)) else (none)) else (none))) else (none)) = some (r1, r2) := by first | (rw [hy136]; with_reducible exact H) | (have H2_ := (Option.bind_some _ _).symm.trans H; rw [hy136]; with_reducible exact H2_) | (have H2_ := (Option.bind_some _ _).symm.trans H; with_reducible exact H2_) | with_reducible exact H | (rw [hy136]; exact H) | exact H
    have Ny136 := Aside0.mk hy136
    clear hy136
    by_cases c7 : 0 < y136.length
    ·
     rw [if_pos c7] at H
     have c7b0 := eq_true c7
     have c7b1 : decide (0 < y136.length) = true := decide_eq_true c7
     clear c7
     obtain ⟨y139, hy139⟩ : ∃ y_ : List Int, y_ = (Kd.laid y136 0 (min t132.length y136.length) t132) := ⟨_, rfl⟩
     replace H : (if 0 ≤ (Kd.cnt t132.length y139.length) then (if (Kd.cnt t132.length y139.length) ≤ (y139.length : Int) then (if 0 < y139.length then (some ((Kd.laid y139 ((Kd.cnt t132.length y139.length) : Int).toNat (min l0_2.length (y139.drop ((Kd.cnt t132.length y139.length) : Int).toNat).length) l0_2), 0)) else (none)) else (none)) else (none)) = some (r1, r2) := by first | (rw [hy139]; with_reducible exact H) | (have H2_ := (Option.bind_some _ _).symm.trans H; rw [hy139]; with_reducible exact H2_) | (have H2_ := (Option.bind_some _ _).symm.trans H; with_reducible exact H2_) | with_reducible exact H | (rw [hy139]; exact H) | exact H
     have Ny139 := Aside0.mk hy139
     clear hy139
     by_cases c8 : 0 ≤ (Kd.cnt t132.length y139.length)
     ·
      rw [if_pos c8] at H
      have c8b0 := eq_true c8
      have c8b1 : decide (0 ≤ (Kd.cnt t132.length y139.length)) = true := decide_eq_true c8
      clear c8
      by_cases c9 : (Kd.cnt t132.length y139.length) ≤ (y139.length : Int)
      ·
       rw [if_pos c9] at H
       have c9b0 := eq_true c9
       have c9b1 : decide ((Kd.cnt t132.length y139.length) ≤ (y139.length : Int)) = true := decide_eq_true c9
       clear c9
       obtain ⟨y142, hy142⟩ : ∃ y_ : List Int, y_ = (y139.drop ((Kd.cnt t132.length y139.length) : Int).toNat) := ⟨_, rfl⟩
       replace H : (if 0 < y139.length then (some ((Kd.laid y139 ((Kd.cnt t132.length y139.length) : Int).toNat (min l0_2.length y142.length) l0_2), 0)) else (none)) = some (r1, r2) := by first | (rw [hy142]; with_reducible exact H) | (have H2_ := (Option.bind_some _ _).symm.trans H; rw [hy142]; with_reducible exact H2_) | (have H2_ := (Option.bind_some _ _).symm.trans H; with_reducible exact H2_) | with_reducible exact H | (rw [hy142]; exact H) | exact H
       have Ny142 := Aside0.mk hy142
       clear hy142
       by_cases c10 : 0 < y139.length
       ·
        rw [if_pos c10] at H
        have c10b0 := eq_true c10
        have c10b1 : decide (0 < y139.length) = true := decide_eq_true c10
        clear c10
        obtain ⟨y146, hy146⟩ : ∃ y_ : List Int, y_ = (Kd.laid y139 ((Kd.cnt t132.length y139.length) : Int).toNat (min l0_2.length y142.length) l0_2) := ⟨_, rfl⟩
        replace H : (some (y146, 0)) = some (r1, r2) := by first | (rw [hy146]; with_reducible exact H) | (have H2_ := (Option.bind_some _ _).symm.trans H; rw [hy146]; with_reducible exact H2_) | (have H2_ := (Option.bind_some _ _).symm.trans H; with_reducible exact H2_) | with_reducible exact H | (rw [hy146]; exact H) | exact H
        have Ny146 := Aside0.mk hy146
        clear hy146
        simp only [Option.some.injEq, Prod.mk.injEq] at H
        obtain ⟨rfl, rfl⟩ := H
        go_enter Try.func14, Try.ntmps14
        try go_wp2_with (first | ((with_reducible refine gate_dst (N := 1) rfl ?_); refine box_event ?hg (N := 1) ?hd (cs := #[.int .i64 a0_0, .int .i64 a0_1, .slice A0_2 l0_2.length c0_2]) (t := 30) ?hr ?_; (case hd => rfl); (case hg => rfl); (case hr => first | (go_simp; done) | (go_simp; rfl)); intro gb131 hg w11 hbox hb; have n0_ := Aside0.mk (below_step (by repeat (first | (with_reducible first | exact HB.out | apply below_alloc | apply pw_below_drewN | apply below_drew1) | exact HB.out)) hb); have n1_ := Aside0.mk (hbox); have n2_ := Aside0.mk ((by rw [hg]; exact (below_size (by repeat (first | (with_reducible first | exact HB.out | apply below_alloc | apply pw_below_drewN | apply below_drew1) | exact HB.out))) : w.heap.size ≤ gb131)); have n3_ := Aside0.mk ((by rw [hg]; exact (below_size (by repeat (first | (with_reducible first | exact HB.out | apply below_alloc | apply pw_below_drewN | apply below_drew1) | exact HB.out))) : w.heap.size ≤ gb131)); clear HB; have HB := n0_; have BK131 := n1_; have GW131 := n2_; have GE131 := n3_; clear n0_ n1_ n2_ n3_; clear hb hbox hg; have hcz12_0 : w11.cell? ⟨gb131, 0, none⟩ = some (.int .i64 a0_0) := (blk_cell BK131.out 0).trans rfl; have hcz12_1 : w11.cell? ⟨gb131, 1, none⟩ = some (.int .i64 a0_1) := (blk_cell BK131.out 1).trans rfl; have hcz12_2 : w11.cell? ⟨gb131, 2, none⟩ = some (.slice A0_2 l0_2.length c0_2) := (blk_cell BK131.out 2).trans rfl; have hfz12_0 := blk_frozen BK131.out 0; have hfz12_1 := blk_frozen BK131.out 1; have hfz12_2 := blk_frozen BK131.out 2) | ((with_reducible refine gate_callee (f := 35) rfl ?_); refine goesL_ (some 17) rfl rfl Try.func35 (by kernel_rfl) rfl #[.agg #[.int .i64 a0_0, .int .i64 (wrap64 ((l0_2.length : Int) + 1)), .int .i64 a0_1]] rfl (by (try simp only [List.map_toArray, List.map_cons, List.map_nil]); first | done | rfl | (simp only [List.length_drop, List.length_take]; rfl)) ?_; (with_reducible refine (head_Put.calls a0_0 (wrap64 ((l0_2.length : Int) + 1)) a0_1 t132 t135 _ A2.out).mono ?_); rintro e w13 ⟨v133, rfl, ho0, hb⟩; refine ⟨_, rfl, ?_⟩; have n0_ := Aside0.mk (Kd.R_lower ho0 (below_size (by repeat (first | (with_reducible first | exact HB.out | apply below_alloc | apply pw_below_drewN | apply below_drew1 | refine below_set ?_ GE131.out) | exact HB.out)))); have n1_ := Aside0.mk (blk_below (g := gb131) (o := .cells #[.int .i64 a0_0, .int .i64 a0_1, .slice A0_2 l0_2.length c0_2] 30 (0, 0)) (by (with_reducible repeat (first | refine blk_drewN ?_ _ | refine blk_drew ?_ | refine blk_alloc ?_ _)); exact BK131.out) hb); have n2_ := Aside0.mk (below_step (by repeat (first | (with_reducible first | exact HB.out | apply below_alloc | apply pw_below_drewN | apply below_drew1 | refine below_set ?_ GE131.out) | exact HB.out)) hb); clear BK131; clear HB; have HO134 := n0_; have BK131 := n1_; have HB := n2_; clear n0_ n1_ n2_; (try clear hb); (try clear hb2); (try clear hk); (try clear hi); (try clear ho0); have hcz14_0 : w13.cell? ⟨gb131, 0, none⟩ = some (.int .i64 a0_0) := (blk_cell BK131.out 0).trans rfl; have hcz14_1 : w13.cell? ⟨gb131, 1, none⟩ = some (.int .i64 a0_1) := (blk_cell BK131.out 1).trans rfl; have hcz14_2 : w13.cell? ⟨gb131, 2, none⟩ = some (.slice A0_2 l0_2.length c0_2) := (blk_cell BK131.out 2).trans rfl; have hfz14_0 := blk_frozen BK131.out 0; have hfz14_1 := blk_frozen BK131.out 1; have hfz14_2 := blk_frozen BK131.out 2) | ((with_reducible refine gate_dst (N := 27) rfl ?_); refine Kd.R_make (Kd.int .u8) _ 5 rfl (N := 27) rfl 22 _ _ rfl ji4 rfl rfl Try.underlying22 (.int .u8 0) 1 info5 rfl (by decide) (by omega) 0 (ok := fun _ => True) (okp := fun _ => True) rfl (fun _ hk => hk) trivial (of_decide_eq_true (by first | (with_reducible assumption) | assumption)) (Nat.le_trans (Nat.mul_le_mul_right _ (of_decide_eq_true (by first | (with_reducible assumption) | assumption) : ji4.toNat ≤ 281474976710656)) (by omega)) (Below.refl _ _) (Nat.le_refl _) ?_; intro v137 w15 ho16 hb hg_ hnew_; clear hg_ hnew_; (first | rw [← Ny136.out] at ho16 | (simp only [Int.reduceToNat] at ho16; rw [← Ny136.out] at ho16)); have n0_ := Aside0.mk (Kd.R_elder' (by (with_reducible repeat (first | apply Kd.R_alloc | apply Kd.R_drewN | apply Kd.R_drew)); exact HO134.out) (Kd.R_base ho16) hb); have n1_ := Aside0.mk (Kd.R_lower (Kd.R_new' ho16 (Kd.R_lt (by (with_reducible repeat (first | apply Kd.R_alloc | apply Kd.R_drewN | apply Kd.R_drew)); exact HO134.out))) (below_size (by repeat (first | (with_reducible first | exact HB.out | apply below_alloc | apply pw_below_drewN | apply below_drew1 | refine below_set ?_ GE131.out) | exact HB.out)))); have n2_ := Aside0.mk (blk_below (g := gb131) (o := .cells #[.int .i64 a0_0, .int .i64 a0_1, .slice A0_2 l0_2.length c0_2] 30 (0, 0)) (by (with_reducible repeat (first | refine blk_drewN ?_ _ | refine blk_drew ?_ | refine blk_alloc ?_ _)); exact BK131.out) hb); have n3_ := Aside0.mk (below_step (by repeat (first | (with_reducible first | exact HB.out | apply below_alloc | apply pw_below_drewN | apply below_drew1 | refine below_set ?_ GE131.out) | exact HB.out)) hb); clear HO134; clear BK131; clear HB; have HO134 := n0_; have HO138 := n1_; have BK131 := n2_; have HB := n3_; clear n0_ n1_ n2_ n3_; clear hb ho16))
        have n0_ := Aside0.mk (Kd.R_drew HO134.out)
        have n1_ := Aside0.mk (Kd.R_drew HO138.out)
        have n2_ := Aside0.mk (blk_drew BK131.out)
        have n3_ := Aside0.mk (below_drew1 HB.out)
        clear HO134
        clear HO138
        clear BK131
        clear HB
        have HO134 := n0_
        have HO138 := n1_
        have BK131 := n2_
        have HB := n3_
        clear n0_ n1_ n2_ n3_
        obtain ⟨Ao20, co20, eo20⟩ := Kd.R_slice HO138.out
        (first | subst eo20 | (injection eo20 with f1_ f2_ f3_; have f4_ := f1_.symm; have f5_ := f3_.symm; clear f1_ f2_ f3_; subst f4_; subst f5_))
        obtain ⟨Ao21, co21, eo21⟩ := Kd.R_slice HO134.out
        (first | subst eo21 | (injection eo21 with f1_ f2_ f3_; have f4_ := f1_.symm; have f5_ := f3_.symm; clear f1_ f2_ f3_; subst f4_; subst f5_))
        obtain ⟨go19, co19, eo19, gb19, gl19, cl19, HG19⟩ := Kd.R_form HO138.out (by have hp_ : 0 < y136.length := of_decide_eq_true (by first | (with_reducible assumption) | assumption); omega)
        (first | cases eo19 | (injection eo19 with ea_ en_ ec_; (first | subst ea_ | (injection ea_ with ea_; subst ea_)); subst ec_; clear en_))
        have GB19 := Aside0.mk gb19
        have GG19 := Aside0.mk HG19
        clear gb19 gl19 HG19
        have n_ := Aside0.mk (Kd.R_mono (ok' := (fun k_ => some k_ ≠ (.slice Ao21 t132.length co21 : Value).ownBlock)) HO138.out (fun k_ hk => by first | exact hk | exact hk.2))
        clear HO138
        have HO138 := n_
        clear n_
        refine start_ (n := 8) (S := fun w' => w'.cell? ⟨gb131, 0, none⟩ = some (.int .i64 a0_0) ∧ w'.cell? ⟨gb131, 1, none⟩ = some (.int .i64 a0_1) ∧ w'.cell? ⟨gb131, 2, none⟩ = some (.slice A0_2 l0_2.length c0_2)) (ds := []) #[false,false,false,false,false,false,false,false] (by kernel_rfl) rfl rfl ⟨(blk_cell BK131.out 0).trans rfl, (blk_cell BK131.out 1).trans rfl, (blk_cell BK131.out 2).trans rfl⟩ (fun hHeld => ?_); refine with_tabW adu_Bytes.tab5 adu_Bytes.bits5 (fun HT_ HW_ => ?_)
        generalize w15.drew = w17 at HO134 HO138 BK131 HB GG19 hHeld ⊢
        refine pure_ (i := 0) (N := some 28) (v := ?_) (a' := ?_) #[true,false,false,false,false,false,false,false] rfl rfl (any_of HT_.out (by kernel_rfl)) (fun _ _ _ h => h) (Or.inl ⟨by rfl, ?_⟩) ?_ ?_
        rotate_left
        ·
         intro w'
         go_simp
         with_reducible rfl
        rotate_left
        ·
         simp only [Act.put, List.setIfInBounds_toArray, List.set_cons_zero, List.set_cons_succ, i64_w, i32_w]
         rfl
        refine pure_ (i := 1) (N := some 29) (v := ?_) (a' := ?_) #[true,true,false,false,false,false,false,false] rfl rfl (any_of HT_.out (by kernel_rfl)) (fun _ _ _ h => h) (Or.inl ⟨by rfl, ?_⟩) ?_ ?_
        rotate_left
        ·
         intro w'
         go_simp
         with_reducible rfl
        rotate_left
        ·
         simp only [Act.put, List.setIfInBounds_toArray, List.set_cons_zero, List.set_cons_succ, i64_w, i32_w]
         rfl
        refine pure_ (i := 2) (N := some 30) (v := ?_) (a' := ?_) #[true,true,true,false,false,false,false,false] rfl rfl (any_of HT_.out (by kernel_rfl)) (fun _ _ _ h => h) (Or.inl ⟨by rfl, ?_⟩) ?_ ?_
        rotate_left
        ·
         intro w'
         go_simp
         with_reducible rfl
        rotate_left
        ·
         simp only [Act.put, List.setIfInBounds_toArray, List.set_cons_zero, List.set_cons_succ, i64_w, i32_w]
         rfl
        refine pure_ (i := 5) (N := some 33) (v := ?_) (a' := ?_) #[true,true,true,false,false,true,false,false] rfl rfl (any_of HT_.out (by kernel_rfl)) (fun _ _ _ h => h) (Or.inl ⟨by rfl, ?_⟩) ?_ ?_
        rotate_left
        ·
         intro w'
         go_simp
         with_reducible rfl
        rotate_left
        ·
         simp only [Act.put, List.setIfInBounds_toArray, List.set_cons_zero, List.set_cons_succ, i64_w, i32_w]
         rfl
        refine take_ (i := 6) (N := some 34) (v := ?_) (a' := ?_) #[true,true,true,false,false,true,true,false] rfl rfl (take_ofW HT_.out HW_.out (by kernel_rfl)) (fun _ _ _ h => h) (Or.inl ⟨by rfl, ?_⟩) hHeld ?_ ?_
        rotate_left
        ·
         rintro w' ⟨s0, s1, s2⟩
         go_simp
         with_reducible rfl
        rotate_left
        ·
         simp only [Act.put, List.setIfInBounds_toArray, List.set_cons_zero, List.set_cons_succ, i64_w, i32_w]
         rfl
        refine one_ (i := 3) (N := some 31) #[true,true,true,true,false,true,true,false] rfl rfl (one_of HT_.out (by kernel_rfl)) (by decide) (fun K hK => ?_)
        refine Kd.R_copy_at_step (Kd.int .u8) (Kd.flat_int .u8) (w0 := w) w.heap.size (by rfl) (.tmp 29) (.tmp 30) 22 22 5 rfl Try.underlying22 (by kernel_rfl) (g := go19) (n := y136.length) (c := co20) 0 t132 rfl rfl (by (with_reducible repeat (first | apply Kd.R_alloc | apply Kd.R_drewN | apply Kd.R_drew)); exact HO138.out) ?hm ?hA ?hR (by repeat (first | (with_reducible first | exact HB.out | apply below_alloc | apply pw_below_drewN | apply below_drew1 | refine below_set ?_ GE131.out) | exact HB.out)) (below_size (by repeat (first | (with_reducible first | exact HB.out | apply below_alloc | apply pw_below_drewN | apply below_drew1 | refine below_set ?_ GE131.out) | exact HB.out))) ?_
        (case hm => omega)
        (case hA => intro _; rw [Nat.zero_mul])
        (case hR => repeat (first | exact (Kd.R_reads' HO134.out).2.2 | (with_reducible refine Kd.C_alloc ?_ _) | (with_reducible refine Kd.C_drewN ?_ _) | (with_reducible refine Kd.C_drew ?_)))
        intro w18 ho hb hg
        rw [← Ny139.out] at ho
        have hn_ : y136.length = y139.length := (Kd.R_reads' ho).1
        rw [hn_] at ho ⊢
        clear hn_
        have n0_ := Aside0.mk (blk_grown (g := gb131) (o := .cells #[.int .i64 a0_0, .int .i64 a0_1, .slice A0_2 l0_2.length c0_2] 30 (0, 0)) (by (with_reducible repeat (first | refine blk_drewN ?_ _ | refine blk_drew ?_ | refine blk_alloc ?_ _)); exact BK131.out) hg (Kd.R_ne HO138.out BK131.out (by decide)))
        have n1_ := Aside0.mk (Kd.R_after (v := (.slice (some ⟨go19, 0, none⟩) y136.length co20)) (v1 := .slice (some ⟨go19, 0, none⟩) y139.length co20) (ok := (fun _ => True)) (by (with_reducible repeat (first | apply Kd.R_alloc | apply Kd.R_drewN | apply Kd.R_drew)); exact HO134.out) hg (.inl rfl))
        have n2_ := Aside0.mk (ho)
        have n3_ := Aside0.mk (hb)
        clear BK131
        clear HO134
        clear HO138
        clear HB
        have BK131 := n0_
        have HO134 := n1_
        have HO138 := n2_
        have HB := n3_
        clear n0_ n1_ n2_ n3_
        clear ho hb hg
        have q22 : ((Kd.cnt t132.length y139.length) : Int) ≤ ((y139.length : Int) : Int) := of_decide_eq_true (by first | (with_reducible assumption) | assumption)
        obtain ⟨i022, hi022, _, hsz22, _⟩ := info_parts info5
        have hroom22 : y139.length ≤ co20 := (Kd.R_reads' HO138.out).2.1
        have hC22 : Kd.C (Kd.int .u8) _ (some ⟨go19, 0, none⟩) y139.length y139 := (Kd.R_reads' HO138.out).2.2
        have q022 : (0 : Int) ≤ ((Kd.cnt t132.length y139.length) : Int) := of_decide_eq_true (by first | (with_reducible assumption) | assumption)
        have hcut22 := cut_from (P := Try.prog) 22 5 .i64 Try.underlying22 hi022 1 hsz22 (some ⟨go19, 0, none⟩) y139.length co20 (Kd.cnt t132.length y139.length) q022 q22
        have hr22 := Kd.C_drop (m := ((Kd.cnt t132.length y139.length) : Int).toNat) (c := co20) hC22 (by omega) hroom22
        obtain ⟨A22, hA22⟩ : ∃ A1, A1 = (if co20 = ((Kd.cnt t132.length y139.length) : Int).toNat then (some ⟨go19, 0, none⟩) else ((some ⟨go19, 0, none⟩) : Option Addr).map (·.add (((Kd.cnt t132.length y139.length) : Int).toNat * 1))) := ⟨_, rfl⟩
        obtain ⟨c22, hc22⟩ : ∃ c1, c1 = co20 - ((Kd.cnt t132.length y139.length) : Int).toNat := ⟨_, rfl⟩
        have hy22 : y142.length = y139.length - ((Kd.cnt t132.length y139.length) : Int).toNat := (by rw [Ny142.out, List.length_drop] <;> omega)
        rw [show (y139).drop ((Kd.cnt t132.length y139.length) : Int).toNat = y142 from Ny142.out.symm] at hr22
        replace hr22 : Kd.C (Kd.int .u8) _ A22 y142.length y142 := (by rw [hA22]; exact hr22)
        rw [← hy22, ← hA22, ← hc22] at hcut22
        have HR145 := Aside0.mk hr22
        have HC145 := Aside0.mk (show y142.length ≤ c22 from by rw [hy22, hc22]; exact Nat.sub_le_sub_right hroom22 _)
        clear hr22 hC22 hroom22 hi022 hsz22 hc22
        have KY22 := Aside0.mk hy22
        have KA22 := Aside0.mk hA22
        clear hy22 hA22
        have KL22 := Aside0.mk (show ((Kd.cnt t132.length y139.length) : Int).toNat ≤ y139.length from by omega)
        replace q22 := eq_true q22
        refine hK.out _ _ ⟨(blk_cell BK131.out 0).trans rfl, (blk_cell BK131.out 1).trans rfl, (blk_cell BK131.out 2).trans rfl⟩ (fun hHeld => ?_)
        clear hK K
        refine norm_ (a' := ?_) ?_ ?_
        rotate_left
        ·
         show Act.put _ (some 31) _ = _
         simp only [Act.put, List.setIfInBounds_toArray, List.set_cons_zero, List.set_cons_succ, i64_w, i32_w]
         rfl
        refine pure_ (i := 4) (N := some 32) (v := ?_) (a' := ?_) #[true,true,true,true,true,true,true,false] rfl rfl (any_of HT_.out (by kernel_rfl)) (fun _ _ _ h => h) (Or.inl ⟨by rfl, ?_⟩) ?_ ?_
        rotate_left
        ·
         intro w'
         go_simp
         with_reducible rfl
        rotate_left
        ·
         simp only [Act.put, List.setIfInBounds_toArray, List.set_cons_zero, List.set_cons_succ, i64_w, i32_w]
         rfl
        refine one_ (i := 7) (N := some 35) #[true,true,true,true,true,true,true,true] rfl rfl (one_of HT_.out (by kernel_rfl)) (by decide) (fun K hK => ?_)
        have hj_ : 0 ≤ ((Kd.cnt t132.length y139.length) : Int) := of_decide_eq_true (by first | (with_reducible assumption) | assumption)
        have hl_ : ((Kd.cnt t132.length y139.length) : Int) ≤ (y139.length : Int) := of_decide_eq_true (by first | (with_reducible assumption) | assumption)
        have hy1_ := KY22.out
        refine Kd.R_copy_at_step (Kd.int .u8) (Kd.flat_int .u8) (w0 := w) w.heap.size (by rfl) (.tmp 32) (.tmp 34) 22 22 5 rfl Try.underlying22 (by kernel_rfl) (g := go19) (n := y139.length) (c := co20) (((Kd.cnt t132.length y139.length) : Int).toNat) l0_2 rfl rfl (by (with_reducible repeat (first | apply Kd.R_alloc | apply Kd.R_drewN | apply Kd.R_drew)); exact HO138.out) ?hm ?hA ?hR (by repeat (first | (with_reducible first | exact HB.out | apply below_alloc | apply pw_below_drewN | apply below_drew1 | refine below_set ?_ GE131.out) | exact HB.out)) (below_size (by repeat (first | (with_reducible first | exact HB.out | apply below_alloc | apply pw_below_drewN | apply below_drew1 | refine below_set ?_ GE131.out) | exact HB.out))) ?_
        (case hm => omega)
        (case hA => intro hp_; have ha_ := KA22.out; have hc_ := (Kd.R_reads' HO138.out).2.1; rw [if_neg (by omega)] at ha_; rw [ha_, Option.map_some, add_at, Nat.zero_add]; first | done | rfl)
        (case hR => repeat (first | exact (Kd.C_below HR0_2.out HB.out) | (with_reducible refine Kd.C_alloc ?_ _) | (with_reducible refine Kd.C_drewN ?_ _) | (with_reducible refine Kd.C_drew ?_)))
        intro w23 ho hb hg
        clear hj_ hl_ hy1_
        rw [← Ny146.out] at ho
        have hn_ : y139.length = y146.length := (Kd.R_reads' ho).1
        rw [hn_] at ho ⊢
        clear hn_
        have n0_ := Aside0.mk (blk_grown (g := gb131) (o := .cells #[.int .i64 a0_0, .int .i64 a0_1, .slice A0_2 l0_2.length c0_2] 30 (0, 0)) (by (with_reducible repeat (first | refine blk_drewN ?_ _ | refine blk_drew ?_ | refine blk_alloc ?_ _)); exact BK131.out) hg (Kd.R_ne HO138.out BK131.out (by decide)))
        have n1_ := Aside0.mk (Kd.R_after (v := (.slice (some ⟨go19, 0, none⟩) y139.length co20)) (v1 := .slice (some ⟨go19, 0, none⟩) y146.length co20) (ok := (fun _ => True)) (by (with_reducible repeat (first | apply Kd.R_alloc | apply Kd.R_drewN | apply Kd.R_drew)); exact HO134.out) hg (.inl rfl))
        have n2_ := Aside0.mk (ho)
        have n3_ := Aside0.mk (hb)
        clear BK131
        clear HO134
        clear HO138
        clear HB
        have BK131 := n0_
        have HO134 := n1_
        have HO138 := n2_
        have HB := n3_
        clear n0_ n1_ n2_ n3_
        clear ho hb hg
        refine hK.out _ _ ⟨(blk_cell BK131.out 0).trans rfl, (blk_cell BK131.out 1).trans rfl, (blk_cell BK131.out 2).trans rfl⟩ (fun hHeld => ?_)
        clear hK K
        refine norm_ (a' := ?_) ?_ ?_
        rotate_left
        ·
         show Act.put _ (some 35) _ = _
         simp only [Act.put, List.setIfInBounds_toArray, List.set_cons_zero, List.set_cons_succ, i64_w, i32_w]
         rfl
        refine done_ (done_of HT_.out (by kernel_rfl)) ?_
        try go_wp2
        go_ret2
        exact ⟨_, by first | rfl | (simp [errW_none, errW_some] <;> rfl) | (simp only [← hji4]; first | rfl | (simp [errW_none, errW_some] <;> rfl)) | (simp [*, errW_none, errW_some] <;> rfl), by (with_reducible repeat (first | apply Kd.R_alloc | apply Kd.R_drewN | apply Kd.R_drew)); exact Kd.R_mono HO138.out (fun _ hk => trivial), by repeat (first | (with_reducible first | exact HB.out | apply below_alloc | apply pw_below_drewN | apply below_drew1 | refine below_set ?_ GE131.out) | exact HB.out)⟩
       ·
        rw [if_neg c10] at H
        exact absurd H (by simp)
      ·
       rw [if_neg c9] at H
       exact absurd H (by simp)
     ·
      rw [if_neg c8] at H
      exact absurd H (by simp)
    ·
     rw [if_neg c7] at H
     exact absurd H (by simp)
   ·
    rw [if_neg c6] at H
    exact absurd H (by simp)
  ·
   rw [if_neg c5] at H
   exact absurd H (by simp)
 ·
  rw [if_neg c3] at H
  have c3b0 : (t135 == 0) = false := beq_eq_false_iff_ne.mpr c3
  have c3b1 : (t135 != 0) = true := bne_iff_ne.mpr c3
  simp only [Option.some.injEq, Prod.mk.injEq] at H
  obtain ⟨rfl, rfl⟩ := H
  go_enter Try.func14, Try.ntmps14
  go_wp2_with (first | ((with_reducible refine gate_dst (N := 1) rfl ?_); refine box_event ?hg (N := 1) ?hd (cs := #[.int .i64 a0_0, .int .i64 a0_1, .slice A0_2 l0_2.length c0_2]) (t := 30) ?hr ?_; (case hd => rfl); (case hg => rfl); (case hr => first | (go_simp; done) | (go_simp; rfl)); intro gb131 hg w25 hbox hb; have n0_ := Aside0.mk (below_step (by repeat (first | (with_reducible first | exact HB.out | apply below_alloc | apply pw_below_drewN | apply below_drew1) | exact HB.out)) hb); have n1_ := Aside0.mk (hbox); have n2_ := Aside0.mk ((by rw [hg]; exact (below_size (by repeat (first | (with_reducible first | exact HB.out | apply below_alloc | apply pw_below_drewN | apply below_drew1) | exact HB.out))) : w.heap.size ≤ gb131)); have n3_ := Aside0.mk ((by rw [hg]; exact (below_size (by repeat (first | (with_reducible first | exact HB.out | apply below_alloc | apply pw_below_drewN | apply below_drew1) | exact HB.out))) : w.heap.size ≤ gb131)); clear HB; have HB := n0_; have BK131 := n1_; have GW131 := n2_; have GE131 := n3_; clear n0_ n1_ n2_ n3_; clear hb hbox hg; have hcz26_0 : w25.cell? ⟨gb131, 0, none⟩ = some (.int .i64 a0_0) := (blk_cell BK131.out 0).trans rfl; have hcz26_1 : w25.cell? ⟨gb131, 1, none⟩ = some (.int .i64 a0_1) := (blk_cell BK131.out 1).trans rfl; have hcz26_2 : w25.cell? ⟨gb131, 2, none⟩ = some (.slice A0_2 l0_2.length c0_2) := (blk_cell BK131.out 2).trans rfl; have hfz26_0 := blk_frozen BK131.out 0; have hfz26_1 := blk_frozen BK131.out 1; have hfz26_2 := blk_frozen BK131.out 2) | ((with_reducible refine gate_callee (f := 35) rfl ?_); refine goesL_ (some 17) rfl rfl Try.func35 (by kernel_rfl) rfl #[.agg #[.int .i64 a0_0, .int .i64 (wrap64 ((l0_2.length : Int) + 1)), .int .i64 a0_1]] rfl (by (try simp only [List.map_toArray, List.map_cons, List.map_nil]); first | done | rfl | (simp only [List.length_drop, List.length_take]; rfl)) ?_; (with_reducible refine (head_Put.calls a0_0 (wrap64 ((l0_2.length : Int) + 1)) a0_1 t132 t135 _ A2.out).mono ?_); rintro e w27 ⟨v133, rfl, ho0, hb⟩; refine ⟨_, rfl, ?_⟩; have n0_ := Aside0.mk (Kd.R_lower ho0 (below_size (by repeat (first | (with_reducible first | exact HB.out | apply below_alloc | apply pw_below_drewN | apply below_drew1 | refine below_set ?_ GE131.out) | exact HB.out)))); have n1_ := Aside0.mk (blk_below (g := gb131) (o := .cells #[.int .i64 a0_0, .int .i64 a0_1, .slice A0_2 l0_2.length c0_2] 30 (0, 0)) (by (with_reducible repeat (first | refine blk_drewN ?_ _ | refine blk_drew ?_ | refine blk_alloc ?_ _)); exact BK131.out) hb); have n2_ := Aside0.mk (below_step (by repeat (first | (with_reducible first | exact HB.out | apply below_alloc | apply pw_below_drewN | apply below_drew1 | refine below_set ?_ GE131.out) | exact HB.out)) hb); clear BK131; clear HB; have HO134 := n0_; have BK131 := n1_; have HB := n2_; clear n0_ n1_ n2_; (try clear hb); (try clear hb2); (try clear hk); (try clear hi); (try clear ho0)))
  go_ret2
  exact ⟨_, by first | rfl | (simp [errW_none, errW_some] <;> rfl) | (simp [*, errW_none, errW_some] <;> rfl), by first | exact Kd.R_nil _ _ _ _ _ | exact Kd.N_nil _ _ _ _ _ | exact Kd.V_nil _ _ _ _ _ | exact Kd.Q_nil _ _ _ _ _ | exact Kd.S_nil _ _ _ _ _, by repeat (first | (with_reducible first | exact HB.out | apply below_alloc | apply pw_below_drewN | apply below_drew1 | refine below_set ?_ GE131.out) | exact HB.out)⟩

end Go.Proofs.Ytgbclemmadkcmaa.PAdu
