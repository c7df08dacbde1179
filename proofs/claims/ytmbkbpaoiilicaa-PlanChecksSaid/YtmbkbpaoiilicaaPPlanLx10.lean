-- written by a program of this session (wip/pp) over the kit's print.py; Lean checks it
import Derived.Test.YtmbkbpaoiilicaaPPlanLx0
namespace Go.Proofs.Ytmbkbpaoiilicaa.PPlanL
open Go.RowKit Go.Proofs.YtmbkbpaoiilicaaW.PrintWords Go.Proofs.YtmbkbpaoiilicaaW.PrintLast Go.Proofs.YtmbkbpaoiilicaaW.PrintMore
attribute [local go_sem] max2_int min2_int max_two min_two max_three min_three max_four min_four plus_setCell_drewN plus_cell_same   -- for this text's walks alone
set_option linter.unusedVariables false
set_option linter.unusedSimpArgs false

/-! ### busbarlaw0_LentSpans: function 18 -/
def busbarlaw0_LentSpans.l0 : Nat → List (S32) → List (S32) → Int → Option ((List (S32)))
 | 0, _, _, _ => none
 | k + 1, x0, x3, x4 => if x4 < (x3.length : Int) then (if 0 ≤ x4 then (busbarlaw0_LentSpans.l0 k x0 (x3.set (x4 : Int).toNat (⟨7, 7, 7⟩ : S32)) (wrap64 (x4 + 1))) else (none)) else (if 0 ≤ (x0.length : Int) then (if (x0.length : Int) ≤ (x3.length : Int) then (if x3.drop ((x0.length : Int) : Int).toNat = Kd.marks k32 then (some (x3.take ((x0.length : Int) : Int).toNat)) else (none)) else (none)) else (none))
def busbarlaw0_LentSpans.f (k : Nat) (l0 : List (S32)) : Option ((List (S32))) := if 0 ≤ (wrap64 ((l0.length : Int) + 3)) then (if (wrap64 ((l0.length : Int) + 3) : Int).toNat ≤ 11728124029610 then ((some (List.replicate (wrap64 ((l0.length : Int) + 3) : Int).toNat z32 : List (S32))).bind fun y149 => (if 0 < y149.length then (busbarlaw0_LentSpans.l0 k l0 (Kd.laid y149 0 (min l0.length y149.length) l0) (l0.length : Int)) else (none))) else (none)) else (none)
theorem busbarlaw0_LentSpans.mono_l : ∀ k, (∀ y0 y1 y2, LeO (busbarlaw0_LentSpans.l0 k y0 y1 y2) (busbarlaw0_LentSpans.l0 (k + 1) y0 y1 y2))
 | 0 => fun _ _ _ r h => by simp [busbarlaw0_LentSpans.l0] at h
 | k + 1 => by
  have ih0 := busbarlaw0_LentSpans.mono_l k
  ·
   intro y0 y1 y2
   unfold busbarlaw0_LentSpans.l0
   repeat' first
   | (with_reducible exact ih0 _ _ _)
   | (with_reducible exact LeO.refl _)
   | (with_reducible exact LeO.none _)
   | (with_reducible refine LeO.ite ?_ ?_)
   | (with_reducible refine LeO.bind ?_ (fun _ => ?_))
   | exact ih0 _ _ _
   | exact LeO.none _
   | refine LeO.ite ?_ ?_
   | refine LeO.bind ?_ (fun _ => ?_)
theorem busbarlaw0_LentSpans.mono : ∀ a0 k, LeO (busbarlaw0_LentSpans.f k a0) (busbarlaw0_LentSpans.f (k + 1) a0) := by
 intro a0 k
 have ih0 := busbarlaw0_LentSpans.mono_l k
 unfold busbarlaw0_LentSpans.f
 repeat' first
   | (with_reducible exact ih0 _ _ _)
   | (with_reducible exact LeO.refl _)
   | (with_reducible exact LeO.none _)
   | (with_reducible refine LeO.ite ?_ ?_)
   | (with_reducible refine LeO.bind ?_ (fun _ => ?_))
   | exact ih0 _ _ _
   | exact LeO.none _
   | refine LeO.ite ?_ ?_
   | refine LeO.bind ?_ (fun _ => ?_)
set_option maxHeartbeats 8000000 in
set_option maxRecDepth 100000 in
theorem busbarlaw0_LentSpans.calls (k : Nat) (A0 : Option Addr) (c0 : Nat) (l0 : List (S32)) (r : List (S32)) (w : World) (hr0 : Kd.C k32 w A0 l0.length l0) (hc0 : l0.length ≤ c0) (h : busbarlaw0_LentSpans.f k l0 = some r) :
  Calls Try.prog 18 #[.slice A0 l0.length c0] w fun e w' => ∃ v0_ : Value, e = .returned (v0_) ∧ Kd.L k32 32 w' w.heap.size (fun _ => True) v0_ r ∧ Below w.heap.size w w' := by
 have hu32 := Try.underlying32
 have HR0 := Aside0.mk hr0
 have HC0 := Aside0.mk hc0
 clear hr0 hc0
 have HB := Aside0.mk (Below.refl w.heap.size w)
 have H : (if 0 ≤ (wrap64 ((l0.length : Int) + 3)) then (if (wrap64 ((l0.length : Int) + 3) : Int).toNat ≤ 11728124029610 then ((some (List.replicate (wrap64 ((l0.length : Int) + 3) : Int).toNat z32 : List (S32))).bind fun y149 => (if 0 < y149.length then (busbarlaw0_LentSpans.l0 k l0 (Kd.laid y149 0 (min l0.length y149.length) l0) (l0.length : Int)) else (none))) else (none)) else (none)) = some r := h
 clear h
 obtain ⟨ji2, hji2⟩ : ∃ j_ : Int, (wrap64 ((l0.length : Int) + 3)) = j_ := ⟨_, rfl⟩
 replace H : (if 0 ≤ (ji2) then (if (ji2 : Int).toNat ≤ 11728124029610 then ((some (List.replicate (ji2 : Int).toNat z32 : List (S32))).bind fun y149 => (if 0 < y149.length then (busbarlaw0_LentSpans.l0 k l0 (Kd.laid y149 0 (min l0.length y149.length) l0) (l0.length : Int)) else (none))) else (none)) else (none)) = some r := by first | (rw [hji2] at H; exact H) | (simp only [hji2] at H ⊢; exact H)
 have hji2w : (IntKind.i64.wrap ((l0.length : Int) + 3)) = ji2 := (i64_w _).trans hji2
 by_cases c3 : 0 ≤ (ji2)
 ·
  rw [if_pos c3] at H
  have c3b0 := eq_true c3
  have c3b1 : decide (0 ≤ (ji2)) = true := decide_eq_true c3
  clear c3
  by_cases c4 : (ji2 : Int).toNat ≤ 11728124029610
  ·
   rw [if_pos c4] at H
   have c4b0 := eq_true c4
   have c4b1 : decide ((ji2 : Int).toNat ≤ 11728124029610) = true := decide_eq_true c4
   clear c4
   obtain ⟨y149, hy149⟩ : ∃ y_ : List (S32), y_ = (List.replicate (ji2 : Int).toNat z32) := ⟨_, rfl⟩
   replace H : (if 0 < y149.length then (busbarlaw0_LentSpans.l0 k l0 (Kd.laid y149 0 (min l0.length y149.length) l0) (l0.length : Int)) else (none)) = some r := by first | (rw [hy149]; with_reducible exact H) | (have H2_ := (Option.bind_some _ _).symm.trans H; rw [hy149]; with_reducible exact H2_) | (have H2_ := (Option.bind_some _ _).symm.trans H; with_reducible exact H2_) | with_reducible exact H | (rw [hy149]; exact H) | exact H
   have Ny149 := Aside0.mk hy149
   clear hy149
   by_cases c5 : 0 < y149.length
   ·
    rw [if_pos c5] at H
    have c5b0 := eq_true c5
    have c5b1 : decide (0 < y149.length) = true := decide_eq_true c5
    clear c5
    obtain ⟨y152, hy152⟩ : ∃ y_ : List (S32), y_ = (Kd.laid y149 0 (min l0.length y149.length) l0) := ⟨_, rfl⟩
    replace H : (busbarlaw0_LentSpans.l0 k l0 y152 (l0.length : Int)) = some r := by first | (rw [hy152]; with_reducible exact H) | (have H2_ := (Option.bind_some _ _).symm.trans H; rw [hy152]; with_reducible exact H2_) | (have H2_ := (Option.bind_some _ _).symm.trans H; with_reducible exact H2_) | with_reducible exact H | (rw [hy152]; exact H) | exact H
    have Ny152 := Aside0.mk hy152
    clear hy152
    have H' := Aside0.mk H
    clear H
    go_enter Try.func18, Try.ntmps18
    go_wp2_with (first | ((with_reducible refine gate_dst (N := 8) rfl ?_); refine Kd.R_make k32 _ 32 rfl (N := 8) rfl 25 _ _ rfl ji2 rfl rfl Try.underlying25 (.agg #[(.int .i64 0), (.int .i64 0), (.int .i64 0)]) 24 info32 rfl (by decide) (by omega) z32 (ok := fun _ => True) (okp := fun _ => True) (k32_mkM _ _ _ z32 ) (fun _ hk => hk) trivial (of_decide_eq_true (by first | (with_reducible assumption) | assumption)) (Nat.le_trans (Nat.mul_le_mul_right _ (of_decide_eq_true (by first | (with_reducible assumption) | assumption) : ji2.toNat ≤ 11728124029610)) (by omega)) (Below.refl _ _) (Nat.le_refl _) ?_; intro v150 w6 ho7 hb hg_ hnew_; clear hg_ hnew_; (first | rw [← Ny149.out] at ho7 | (simp only [Int.reduceToNat] at ho7; rw [← Ny149.out] at ho7)); have n0_ := Aside0.mk (Kd.R_lower ho7 (below_size (by repeat (first | (with_reducible first | exact HB.out | apply below_alloc | apply pw_below_drewN | apply below_drew1) | exact HB.out)))); have n1_ := Aside0.mk (below_step (by repeat (first | (with_reducible first | exact HB.out | apply below_alloc | apply pw_below_drewN | apply below_drew1) | exact HB.out)) hb); clear HB; have HO151 := n0_; have HB := n1_; clear n0_ n1_; clear hb ho7; obtain ⟨Ao10, co10, eo10⟩ := Kd.R_slice HO151.out; subst eo10; obtain ⟨go9, co9, eo9, gb9, gl9, cl9, HG9⟩ := Kd.R_form HO151.out (by have hp_ : 0 < y149.length := of_decide_eq_true (by first | (with_reducible assumption) | assumption); omega); (first | cases eo9 | (injection eo9 with ea_ en_ ec_; (first | subst ea_ | (injection ea_ with ea_; subst ea_)); subst ec_; clear en_)); have GB9 := Aside0.mk gb9; have GG9 := Aside0.mk HG9; clear gb9 gl9 HG9) | ((with_reducible refine gate_builtin (b := .copy) (xs := #[.tmp 9, .tmp 10]) (ts := #[25, 25]) rfl ?_); refine Kd.R_copy_at k32 (flat_32) (w0 := w) w.heap.size rfl (.tmp 9) (.tmp 10) 25 25 32 rfl Try.underlying25 (by kernel_rfl) (g := go9) (n := y149.length) (c := co10) 0 l0 rfl rfl (by (with_reducible repeat (first | apply Kd.R_alloc | apply Kd.R_drewN | apply Kd.R_drew)); exact HO151.out) ?hm ?hA ?hR (by repeat (first | (with_reducible first | exact HB.out | apply below_alloc | apply pw_below_drewN | apply below_drew1) | exact HB.out)) (below_size (by repeat (first | (with_reducible first | exact HB.out | apply below_alloc | apply pw_below_drewN | apply below_drew1) | exact HB.out))) ?_; (case hm => omega); (case hA => intro _; rw [Nat.zero_mul]); (case hR => repeat (first | exact (Kd.C_below HR0.out HB.out) | (with_reducible refine Kd.C_alloc ?_ _) | (with_reducible refine Kd.C_drewN ?_ _) | (with_reducible refine Kd.C_drew ?_))); intro w8 ho hb hg; rw [← Ny152.out] at ho; have hn_ : y149.length = y152.length := (Kd.R_reads' ho).1; rw [hn_] at ho ⊢; clear hn_; have n0_ := Aside0.mk (ho); have n1_ := Aside0.mk (hb); clear HO151; clear HB; have HO151 := n0_; have HB := n1_; clear n0_ n1_; clear ho hb hg))
    go_loopg [4] k (fun kq v4 w' => ∃ (x3_1 : List (S32)) (x4_1 : Int), v4 = .int .i64 x4_1 ∧ Aside0 (busbarlaw0_LentSpans.l0 kq l0 x3_1 x4_1 = some r) ∧ Aside0 (kq ≤ k) ∧ Aside0 (Kd.R k32 32 w' w.heap.size (fun _ => True) (.slice (some ⟨go9, 0, none⟩) y152.length co10) x3_1) ∧ Aside0 (Below w.heap.size w w'))
    case atStart => exact ⟨(y152), ((l0.length : Int)), (by first | rfl | (simp; done) | (simp [*]; done)), H', ⟨Nat.le_refl _⟩, ⟨by (with_reducible repeat (first | apply Kd.R_alloc | apply Kd.R_drewN | apply Kd.R_drew)); exact HO151.out⟩, ⟨by repeat (first | (with_reducible first | exact HB.out | apply below_alloc | apply pw_below_drewN | apply below_drew1) | exact HB.out)⟩⟩
    case round =>
     clear H'
     try clear c1
     try clear p2
     try clear c3
     try clear c3b0
     try clear c3b1
     try clear c4
     try clear c4b0
     try clear c4b1
     try clear c5
     try clear c5b0
     try clear c5b1
     try clear p6
     obtain ⟨x3_1, x4_1, rfl, HA, HK1, HO_3, HB⟩ := hrel
     have hl3_1 := (Kd.R_reads' HO_3.out).1
     rw [hl3_1] at HO_3
     (try simp only [hl3_1])
     cases gk with
     | zero => exact absurd HA.out (by simp [busbarlaw0_LentSpans.l0])
     | succ k1 =>
      have H := HA.out
      clear HA
      simp only [busbarlaw0_LentSpans.l0] at H
      by_cases c11 : x4_1 < (x3_1.length : Int)
      ·
       rw [if_pos c11] at H
       have c11b0 : decide (x4_1 < (x3_1.length : Int)) = true := decide_eq_true c11
       (try rw [hl3_1] at c11b0)
       clear c11
       by_cases c12 : 0 ≤ x4_1
       ·
        rw [if_pos c12] at H
        have c12b0 : decide (0 ≤ x4_1) = true := decide_eq_true c12
        clear c12
        obtain ⟨y155, hy155⟩ : ∃ y_ : List (S32), y_ = (x3_1.set (x4_1 : Int).toNat (⟨7, 7, 7⟩ : S32)) := ⟨_, rfl⟩
        replace H : (busbarlaw0_LentSpans.l0 k1 l0 y155 (wrap64 (x4_1 + 1))) = some r := by first | (rw [hy155]; with_reducible exact H) | (have H2_ := (Option.bind_some _ _).symm.trans H; rw [hy155]; with_reducible exact H2_) | (have H2_ := (Option.bind_some _ _).symm.trans H; with_reducible exact H2_) | with_reducible exact H | (rw [hy155]; exact H) | exact H
        have Ny155 := Aside0.mk hy155
        clear hy155
        have H' := Aside0.mk H
        clear H
        have p13 : 0 ≤ (x4_1 : Int) := of_decide_eq_true (by first | (with_reducible assumption) | assumption)
        have q13 : (x4_1 : Int) < ((x3_1.length : Int) : Int) := of_decide_eq_true (by first | (with_reducible assumption) | assumption)
        obtain ⟨ce13, hcl13, hM13, hcc13, hfr13⟩ := Kd.R_elem HO_3.out z32 (x4_1 : Int) p13 q13
        obtain rfl := k32_openM hM13
        have hx13_0 : wr.cell? ⟨go9, (x4_1 : Int).toNat * 3, none⟩ = some (.int .i64 ((rd_T32 x3_1 x4_1).f0)) := hcc13 0 _ rfl
        have hx13_1 : wr.cell? ⟨go9, (x4_1 : Int).toNat * 3 + 1, none⟩ = some (.int .i64 ((rd_T32 x3_1 x4_1).f1)) := hcc13 1 _ rfl
        have hx13_2 : wr.cell? ⟨go9, (x4_1 : Int).toNat * 3 + 2, none⟩ = some (.int .i64 ((rd_T32 x3_1 x4_1).f2)) := hcc13 2 _ rfl
        have hf13_0 : wr.frozen? ⟨go9, (x4_1 : Int).toNat * 3, none⟩ = false := hfr13 0
        have hf13_1 : wr.frozen? ⟨go9, (x4_1 : Int).toNat * 3 + 1, none⟩ = false := hfr13 1
        have hf13_2 : wr.frozen? ⟨go9, (x4_1 : Int).toNat * 3 + 2, none⟩ = false := hfr13 2
        clear hcl13 hcc13 hfr13 hM13
        replace p13 := eq_true p13
        replace q13 := eq_true q13
        have HX14 := Aside0.mk (show Kd.R k32 32 wr w.heap.size (fun _ => True) (.slice (some ⟨go9, 0, none⟩) x3_1.length co10) x3_1 from (by (with_reducible repeat (first | apply Kd.R_alloc | apply Kd.R_drewN | apply Kd.R_drew)); exact HO_3.out))
        obtain ⟨ce14, hcl14, hM14, hcc14, hfr14⟩ := Kd.R_elem HX14.out z32 (x4_1 : Int) (of_decide_eq_true (by first | (with_reducible assumption) | assumption)) (by have h_ : (x4_1 : Int) < ((x3_1.length : Int) : Int) := of_decide_eq_true (by first | (with_reducible assumption) | assumption); first | exact h_ | (have e_ := (Kd.R_reads' HO_3.out).1; omega) | simpa using h_)
        obtain rfl := k32_openM hM14
        have HP14 := Kd.R_seg HX14.out (x4_1 : Int) (of_decide_eq_true (by first | (with_reducible assumption) | assumption)) (by have h_ : (x4_1 : Int) < ((x3_1.length : Int) : Int) := of_decide_eq_true (by first | (with_reducible assumption) | assumption); first | exact h_ | (have e_ := (Kd.R_reads' HO_3.out).1; omega) | simpa using h_) (seg := [.int .i64 7, .int .i64 7, .int .i64 7]) (j := 0) hcl14 hcc14 (show 3 ≤ 3 from by decide) (x' := (⟨7, 7, 7⟩ : S32)) (k32_mkM _ _ _ (⟨7, 7, 7⟩ : S32) ) (fun _ hk => hk)
        have hx14_0 := hcc14 0 _ rfl
        (try simp only [show (k32).sz = 3 from rfl, Nat.mul_one, Nat.add_zero] at hx14_0)
        have hf14_0 := hfr14 0
        (try simp only [show (k32).sz = 3 from rfl, Nat.mul_one, Nat.add_zero] at hf14_0)
        have hx14_1 := hcc14 1 _ rfl
        (try simp only [show (k32).sz = 3 from rfl, Nat.mul_one, Nat.add_zero] at hx14_1)
        have hf14_1 := hfr14 1
        (try simp only [show (k32).sz = 3 from rfl, Nat.mul_one, Nat.add_zero] at hf14_1)
        have hx14_2 := hcc14 2 _ rfl
        (try simp only [show (k32).sz = 3 from rfl, Nat.mul_one, Nat.add_zero] at hx14_2)
        have hf14_2 := hfr14 2
        (try simp only [show (k32).sz = 3 from rfl, Nat.mul_one, Nat.add_zero] at hf14_2)
        clear hcl14 hcc14 hfr14 hM14
        go_wp2_with (first | ((with_reducible refine gate_store (t := 32) (p := 23) rfl ?_); refine store_event (t := 32) (p := 23) (v := ?vo_w15) (w1 := (((wr.setCell ⟨go9, (x4_1 : Int).toNat * 3, none⟩ (.int .i64 7)).setCell ⟨go9, (x4_1 : Int).toNat * 3 + 1, none⟩ (.int .i64 7)).setCell ⟨go9, (x4_1 : Int).toNat * 3 + 2, none⟩ (.int .i64 7))) ?hg ?ho ?hn ?hr ?_; (case ho => rfl); (case hg => rfl); (case hn => rfl); (case hr => first | (go_simp; done) | (go_simp; rfl)); intro w15 hw; have hg : wr.grownBy w15 (some go9) := (by rw [hw]; exact HP14.2); have hp_ : Kd.R k32 32 w15 w.heap.size (fun _ => True) (.slice (some ⟨go9, 0, none⟩) x3_1.length co10) y155 := (by rw [hw, Ny155.out]; exact HP14.1); clear HP14; have n0_ := Aside0.mk (hp_); have n1_ := Aside0.mk ((by rw [hw]; exact below_set (below_set (below_set (HB.out) GB9.out) GB9.out) GB9.out : Below w.heap.size w w15)); clear HO_3; clear HB; have HO_3 := n0_; have HB := n1_; clear n0_ n1_; clear hg hw hp_))
        (try simp only [← hl3_1])
        go_roundg k1
        case measure => have := HK1.out; omega
        case rel => exact ⟨(y155), (wrap64 (x4_1 + 1)), (by first | rfl | (simp; done) | (simp [*]; done)), H', ⟨by have := HK1.out; omega⟩, ⟨by (try simp only [hl3_1]); (with_reducible repeat (first | apply Kd.R_alloc | apply Kd.R_drewN | apply Kd.R_drew)); exact HO_3.out⟩, ⟨by repeat (first | (with_reducible first | exact HB.out | apply below_alloc | apply pw_below_drewN | apply below_drew1) | exact HB.out)⟩⟩
       ·
        rw [if_neg c12] at H
        exact absurd H (by simp)
      ·
       rw [if_neg c11] at H
       have c11b0 : decide (x4_1 < (x3_1.length : Int)) = false := decide_eq_false c11
       (try rw [hl3_1] at c11b0)
       clear c11
       by_cases c16 : 0 ≤ (l0.length : Int)
       ·
        rw [if_pos c16] at H
        have c16b0 := eq_true c16
        have c16b1 : decide (0 ≤ (l0.length : Int)) = true := decide_eq_true c16
        (try rw [hl3_1] at c16b1)
        clear c16
        by_cases c17 : (l0.length : Int) ≤ (x3_1.length : Int)
        ·
         rw [if_pos c17] at H
         have c17b0 := eq_true c17
         have c17b1 : decide ((l0.length : Int) ≤ (x3_1.length : Int)) = true := decide_eq_true c17
         (try rw [hl3_1] at c17b1)
         clear c17
         by_cases c18 : x3_1.drop ((l0.length : Int) : Int).toNat = Kd.marks k32
         ·
          rw [if_pos c18] at H
          have c18b0 := eq_true c18
          have c18b1 : decide (x3_1.drop ((l0.length : Int) : Int).toNat = Kd.marks k32) = true := decide_eq_true c18
          (try rw [hl3_1] at c18b1)
          clear c18
          obtain ⟨y156, hy156⟩ : ∃ y_ : List (S32), y_ = (x3_1.take ((l0.length : Int) : Int).toNat) := ⟨_, rfl⟩
          replace H : (some y156) = some r := by first | (rw [hy156]; with_reducible exact H) | (have H2_ := (Option.bind_some _ _).symm.trans H; rw [hy156]; with_reducible exact H2_) | (have H2_ := (Option.bind_some _ _).symm.trans H; with_reducible exact H2_) | with_reducible exact H | (rw [hy156]; exact H) | exact H
          have Ny156 := Aside0.mk hy156
          clear hy156
          obtain rfl := Option.some.inj H
          have q19 : ((l0.length : Int) : Int) ≤ ((x3_1.length : Int) : Int) := of_decide_eq_true (by first | (with_reducible assumption) | assumption)
          obtain ⟨i019, hi019, _, hsz19, _⟩ := info_parts info32
          have hcut19 := cut_to (P := Try.prog) 25 32 .i64 Try.underlying25 hi019 (some ⟨go9, 0, none⟩) x3_1.length co10 (l0.length : Int) (of_decide_eq_true (by first | (with_reducible assumption) | assumption)) q19 (Kd.R_reads' HO_3.out).2.1
          have hr19 := Kd.L_of_R (m := ((l0.length : Int) : Int).toNat) HO_3.out (of_decide_eq_true (by first | (with_reducible assumption) | assumption))
          have hy19 : y156.length = ((l0.length : Int) : Int).toNat := (by rw [Ny156.out, List.length_take]; omega)
          rw [← Ny156.out] at hr19
          rw [← hy19] at hr19 hcut19
          clear hy19 hi019 hsz19 HO_3
          have HO158 := Aside0.mk hr19
          clear hr19
          replace q19 := eq_true q19
          go_wp2
          go_ret
          exact ⟨_, by first | rfl | (simp [errW_none, errW_some] <;> rfl) | (simp only [← hji2]; first | rfl | (simp [errW_none, errW_some] <;> rfl)) | (simp [*, errW_none, errW_some] <;> rfl), by (with_reducible repeat (first | apply Kd.L_alloc | apply Kd.L_drewN | apply Kd.L_drew)); exact HO158.out, by repeat (first | (with_reducible first | exact HB.out | apply below_alloc | apply pw_below_drewN | apply below_drew1) | exact HB.out)⟩
         ·
          rw [if_neg c18] at H
          exact absurd H (by simp)
        ·
         rw [if_neg c17] at H
         exact absurd H (by simp)
       ·
        rw [if_neg c16] at H
        exact absurd H (by simp)
   ·
    rw [if_neg c5] at H
    exact absurd H (by simp)
  ·
   rw [if_neg c4] at H
   exact absurd H (by simp)
 ·
  rw [if_neg c3] at H
  exact absurd H (by simp)

end Go.Proofs.Ytmbkbpaoiilicaa.PPlanL
