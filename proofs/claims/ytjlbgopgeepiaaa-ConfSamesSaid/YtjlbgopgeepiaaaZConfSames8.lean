/- Words and walks for ConfSames (made of the session's own texts; each part by itself). -/
import Derived.Deep.DeepCutAuto
import Derived.Test.YtjlbgopgeepiaaaZConfSames7
namespace Go.Proofs.Ytjlbgopgeepiaaa.PConf
open Go.RowKit Go.Proofs.YtjlbgopgeepiaaaW.PrintWords Go.Proofs.YtjlbgopgeepiaaaW.PrintLast Go.Proofs.YtjlbgopgeepiaaaW.PrintMore
attribute [local go_sem] max2_int min2_int max_two min_two max_three min_three max_four min_four plus_setCell_drewN plus_cell_same   -- for this text's walks alone
set_option linter.unusedVariables false
set_option linter.unusedSimpArgs false
mutual
def busbarlaw7_Objects.l0 : Nat → List Int → List (S50) → Int → Int → Option ((List (S50)))
 | 0, _, _, _, _ => none
 | k + 1, x0, x3, x4, x5 => if x5 < (x0.length : Int) then (busbarlaw7_Objects.j1 k x0 x3 x4 x5 (decide (x5 < 40))) else (busbarlaw7_Objects.j1 k x0 x3 x4 x5 false)
def busbarlaw7_Objects.j1 : Nat → List Int → List (S50) → Int → Int → Bool → Option ((List (S50)))
 | 0, _, _, _, _, _ => none
 | k + 1, x0, x3, x4, x5, x19 => if x19 = true then (if 0 ≤ x5 then (if x5 < (x0.length : Int) then ((busbarlaw0_Within.f (rd x0 x5) 12).bind fun t364 => (if (wrap64 ((wrap64 (x4 + 1)) + t364)) > 255 then (if (x0.length : Int) > 0 then (if 0 < (x0.length : Int) then ((busbarlaw0_Digit.f (rd x0 0) 2940 245).bind fun t366 => (if 0 ≤ t366 then (if (t366 : Int).toNat ≤ 281474976710656 then (if 1 < (x3.length : Int) then (some (x3.set (1 : Int).toNat (⟨(rd_T50 x3 1).f0, strOfNums (List.replicate (t366 : Int).toNat 0)⟩ : S50))) else (none)) else (none)) else (none))) else (none)) else (some x3)) else ((busbarlaw0_Digit.f (rd x0 x5) 12 245).bind fun t372 => (if 0 ≤ t372 then (if (t372 : Int).toNat ≤ 281474976710656 then (busbarlaw7_Objects.l1 k x0 x3 (wrap64 ((wrap64 (x4 + 1)) + t364)) x5 (List.replicate (t372 : Int).toNat 0) 0) else (none)) else (none))))) else (none)) else (none)) else (if (x0.length : Int) > 0 then (if 0 < (x0.length : Int) then ((busbarlaw0_Digit.f (rd x0 0) 2940 245).bind fun t358 => (if 0 ≤ t358 then (if (t358 : Int).toNat ≤ 281474976710656 then (if 1 < (x3.length : Int) then (some (x3.set (1 : Int).toNat (⟨(rd_T50 x3 1).f0, strOfNums (List.replicate (t358 : Int).toNat 0)⟩ : S50))) else (none)) else (none)) else (none))) else (none)) else (some x3))
def busbarlaw7_Objects.l1 : Nat → List Int → List (S50) → Int → Int → List Int → Int → Option ((List (S50)))
 | 0, _, _, _, _, _, _ => none
 | k + 1, x0, x3, x4, x5, x6, x7 => if x7 < (x6.length : Int) then (if 0 ≤ x7 then (busbarlaw7_Objects.l1 k x0 x3 x4 x5 (x6.set (x7 : Int).toNat ((wrap64 (97 + (Int.tmod x7 26))) % 256)) (wrap64 (x7 + 1))) else (none)) else (if x3.length < 5864062014805 then (busbarlaw7_Objects.l0 k x0 (x3 ++ [(⟨x4, strOfNums x6⟩ : S50)]) x4 (wrap64 (x5 + 1))) else (none))
end
def busbarlaw7_Objects.f (k : Nat) (l0 : List Int) : Option ((List (S50))) := busbarlaw7_Objects.l0 k l0 (([(⟨0, (⟨#[98, 117, 115, 98, 97, 114]⟩ : ByteArray)⟩ : S50), (⟨1, (⟨#[]⟩ : ByteArray)⟩ : S50), (⟨2, (⟨#[49]⟩ : ByteArray)⟩ : S50)] : List (S50))) 2 0
theorem busbarlaw7_Objects.mono_l : ∀ k, (∀ y0 y1 y2 y3, LeO (busbarlaw7_Objects.l0 k y0 y1 y2 y3) (busbarlaw7_Objects.l0 (k + 1) y0 y1 y2 y3)) ∧ (∀ y0 y1 y2 y3 y4, LeO (busbarlaw7_Objects.j1 k y0 y1 y2 y3 y4) (busbarlaw7_Objects.j1 (k + 1) y0 y1 y2 y3 y4)) ∧ (∀ y0 y1 y2 y3 y4 y5, LeO (busbarlaw7_Objects.l1 k y0 y1 y2 y3 y4 y5) (busbarlaw7_Objects.l1 (k + 1) y0 y1 y2 y3 y4 y5))
 | 0 => ⟨fun _ _ _ _ r h => by simp [busbarlaw7_Objects.l0] at h, fun _ _ _ _ _ r h => by simp [busbarlaw7_Objects.j1] at h, fun _ _ _ _ _ _ r h => by simp [busbarlaw7_Objects.l1] at h⟩
 | k + 1 => by
  obtain ⟨ih0, ih1, ih2⟩ := busbarlaw7_Objects.mono_l k
  refine ⟨?_, ?_, ?_⟩
  ·
   intro y0 y1 y2 y3
   unfold busbarlaw7_Objects.l0
   repeat' first
   | (with_reducible exact ih0 _ _ _ _)
   | (with_reducible exact ih1 _ _ _ _ _)
   | (with_reducible exact ih2 _ _ _ _ _ _)
   | (with_reducible exact LeO.refl _)
   | (with_reducible exact LeO.none _)
   | (with_reducible refine LeO.ite ?_ ?_)
   | (with_reducible refine LeO.bind ?_ (fun _ => ?_))
   | exact ih0 _ _ _ _
   | exact ih1 _ _ _ _ _
   | exact ih2 _ _ _ _ _ _
   | exact LeO.none _
   | refine LeO.ite ?_ ?_
   | refine LeO.bind ?_ (fun _ => ?_)
  ·
   intro y0 y1 y2 y3 y4
   unfold busbarlaw7_Objects.j1
   repeat' first
   | (with_reducible exact ih0 _ _ _ _)
   | (with_reducible exact ih1 _ _ _ _ _)
   | (with_reducible exact ih2 _ _ _ _ _ _)
   | (with_reducible exact LeO.refl _)
   | (with_reducible exact LeO.none _)
   | (with_reducible refine LeO.ite ?_ ?_)
   | (with_reducible refine LeO.bind ?_ (fun _ => ?_))
   | exact ih0 _ _ _ _
   | exact ih1 _ _ _ _ _
   | exact ih2 _ _ _ _ _ _
   | exact LeO.none _
   | refine LeO.ite ?_ ?_
   | refine LeO.bind ?_ (fun _ => ?_)
  ·
   intro y0 y1 y2 y3 y4 y5
   unfold busbarlaw7_Objects.l1
   repeat' first
   | (with_reducible exact ih0 _ _ _ _)
   | (with_reducible exact ih1 _ _ _ _ _)
   | (with_reducible exact ih2 _ _ _ _ _ _)
   | (with_reducible exact LeO.refl _)
   | (with_reducible exact LeO.none _)
   | (with_reducible refine LeO.ite ?_ ?_)
   | (with_reducible refine LeO.bind ?_ (fun _ => ?_))
   | exact ih0 _ _ _ _
   | exact ih1 _ _ _ _ _
   | exact ih2 _ _ _ _ _ _
   | exact LeO.none _
   | refine LeO.ite ?_ ?_
   | refine LeO.bind ?_ (fun _ => ?_)
theorem busbarlaw7_Objects.mono : ∀ a0 k, LeO (busbarlaw7_Objects.f k a0) (busbarlaw7_Objects.f (k + 1) a0) := by
 intro a0 k
 obtain ⟨ih0, ih1, ih2⟩ := busbarlaw7_Objects.mono_l k
 unfold busbarlaw7_Objects.f
 repeat' first
   | (with_reducible exact ih0 _ _ _ _)
   | (with_reducible exact ih1 _ _ _ _ _)
   | (with_reducible exact ih2 _ _ _ _ _ _)
   | (with_reducible exact LeO.refl _)
   | (with_reducible exact LeO.none _)
   | (with_reducible refine LeO.ite ?_ ?_)
   | (with_reducible refine LeO.bind ?_ (fun _ => ?_))
   | exact ih0 _ _ _ _
   | exact ih1 _ _ _ _ _
   | exact ih2 _ _ _ _ _ _
   | exact LeO.none _
   | refine LeO.ite ?_ ?_
   | refine LeO.bind ?_ (fun _ => ?_)
set_option maxHeartbeats 8000000 in
set_option maxRecDepth 100000 in
theorem busbarlaw7_Objects.calls (k : Nat) (A0 : Option Addr) (c0 : Nat) (l0 : List Int) (r : List (S50)) (w : World) (hr0 : Kd.C (Kd.int .i64) w A0 l0.length l0) (hc0 : l0.length ≤ c0) (h : busbarlaw7_Objects.f k l0 = some r) :
  Calls Try.prog 11 #[.slice A0 l0.length c0] w fun e w' => ∃ v0_ : Value, e = .returned (v0_) ∧ Kd.R k50 50 w' w.heap.size (fun _ => True) v0_ r ∧ Below w.heap.size w w' := by
 have hu50 := Try.underlying50
 have HR0 := Aside0.mk hr0
 have HC0 := Aside0.mk hc0
 clear hr0 hc0
 have HB := Aside0.mk (Below.refl w.heap.size w)
 have H : (busbarlaw7_Objects.l0 k l0 (([(⟨0, (⟨#[98, 117, 115, 98, 97, 114]⟩ : ByteArray)⟩ : S50), (⟨1, (⟨#[]⟩ : ByteArray)⟩ : S50), (⟨2, (⟨#[49]⟩ : ByteArray)⟩ : S50)] : List (S50))) 2 0) = some r := h
 clear h
 obtain ⟨y354, hy354⟩ : ∃ y_ : List (S50), y_ = (([(⟨0, (⟨#[98, 117, 115, 98, 97, 114]⟩ : ByteArray)⟩ : S50), (⟨1, (⟨#[]⟩ : ByteArray)⟩ : S50), (⟨2, (⟨#[49]⟩ : ByteArray)⟩ : S50)] : List (S50))) := ⟨_, rfl⟩
 replace H : (busbarlaw7_Objects.l0 k l0 y354 2 0) = some r := by first | (rw [hy354]; with_reducible exact H) | (have H2_ := (Option.bind_some _ _).symm.trans H; rw [hy354]; with_reducible exact H2_) | (have H2_ := (Option.bind_some _ _).symm.trans H; with_reducible exact H2_) | with_reducible exact H | (rw [hy354]; exact H) | exact H
 have Ny354 := Aside0.mk hy354
 clear hy354
 have H' := Aside0.mk H
 clear H
 go_enter Try.func11, Try.ntmps11
 go_wp2_with (first | ((with_reducible refine gate_dst (N := 11) rfl ?_); refine Kd.R_lit k50 _ 50 ?hg (N := 11) ?hd (xs := ([(⟨0, (⟨#[98, 117, 115, 98, 97, 114]⟩ : ByteArray)⟩ : S50), (⟨1, (⟨#[]⟩ : ByteArray)⟩ : S50), (⟨2, (⟨#[49]⟩ : ByteArray)⟩ : S50)] : List (S50))) (inner := [.int .i64 0, .string (⟨#[98, 117, 115, 98, 97, 114]⟩ : ByteArray), .int .i64 1, .string (⟨#[]⟩ : ByteArray), .int .i64 2, .string (⟨#[49]⟩ : ByteArray)]) (ok := fun _ => True) (okp := fun _ => True) ?hr ?hp (fun _ hk => hk) trivial (Below.refl _ _) (Nat.le_refl _) (by simp) ?_; (case hd => rfl); (case hg => rfl); (case hr => first | (go_simp; done) | (go_simp; rfl)); (case hp => exact (Reps.c2 (show Kd.M k50 _ _ _ (⟨0, (⟨#[98, 117, 115, 98, 97, 114]⟩ : ByteArray)⟩ : S50) [.int .i64 0, .string (⟨#[98, 117, 115, 98, 97, 114]⟩ : ByteArray)] from (k50_mkM _ _ _ (⟨0, (⟨#[98, 117, 115, 98, 97, 114]⟩ : ByteArray)⟩ : S50) )) (Reps.c2 (show Kd.M k50 _ _ _ (⟨1, (⟨#[]⟩ : ByteArray)⟩ : S50) [.int .i64 1, .string (⟨#[]⟩ : ByteArray)] from (k50_mkM _ _ _ (⟨1, (⟨#[]⟩ : ByteArray)⟩ : S50) )) (Reps.c2 (show Kd.M k50 _ _ _ (⟨2, (⟨#[49]⟩ : ByteArray)⟩ : S50) [.int .i64 2, .string (⟨#[49]⟩ : ByteArray)] from (k50_mkM _ _ _ (⟨2, (⟨#[49]⟩ : ByteArray)⟩ : S50) )) (Reps.none _ _))))); intro v355 w2 ho3 hb hg_ hnew_; clear hg_ hnew_; (first | rw [← Ny354.out] at ho3 | (simp only [Int.reduceToNat] at ho3; rw [← Ny354.out] at ho3)); have HO356 := Aside0.mk (Kd.R_lower ho3 (below_size (HB.out))); replace HB := Aside0.mk (below_step (HB.out) hb); clear hb ho3))
 go_loopg [3, 4, 5] k (fun kq v3 v4 v5 w' => ∃ (x3_1 : List (S50)) (x4_1 : Int) (x5_1 : Int), v4 = .int .i64 x4_1 ∧ v5 = .int .i64 x5_1 ∧ Aside0 (busbarlaw7_Objects.l0 kq l0 x3_1 x4_1 x5_1 = some r) ∧ Aside0 (kq ≤ k) ∧ Aside0 (Kd.R k50 50 w' w.heap.size (fun _ => True) v3 x3_1) ∧ Aside0 (Below w.heap.size w w'))
 case atStart => exact ⟨(y354), (2), (0), (by first | rfl | (simp; done) | (simp [*]; done)), (by first | rfl | (simp; done) | (simp [*]; done)), H', ⟨Nat.le_refl _⟩, ⟨HO356.out⟩, ⟨HB.out⟩⟩
 case round =>
  clear H'
  (try clear c2)
  obtain ⟨x3_1, x4_1, x5_1, rfl, rfl, HA, HK1, HO_3, HB⟩ := hrel
  cases gk with
  | zero => exact absurd HA.out (by simp [busbarlaw7_Objects.l0])
  | succ k1 =>
   have H := HA.out
   clear HA
   simp only [busbarlaw7_Objects.l0] at H
   have HC4 := Aside0.mk H
   clear H
   go_upto_region 4 with (fail)
   go_cut [19] (fun v19 wc => ∃ (kq : Nat) (x19_3 : Bool), v19 = .bool x19_3 ∧ Aside0 (busbarlaw7_Objects.j1 kq l0 x3_1 x4_1 x5_1 x19_3 = some r) ∧ Aside0 (kq ≤ k1) ∧ Aside0 (Kd.R k50 50 wc w.heap.size (fun _ => True) u3 x3_1) ∧ Aside0 (Below w.heap.size w wc))
   case first =>
    have H := HC4.out
    clear HC4
    by_cases c5 : x5_1 < (l0.length : Int)
    ·
     rw [if_pos c5] at H
     have c5b0 : decide (x5_1 < (l0.length : Int)) = true := decide_eq_true c5
     clear c5
     (first | rw [c5b0] | (simp only [i64_w, i32_w]; rw [c5b0]) | skip)
     have H' := Aside0.mk H
     clear H
     go_wp2
     go_meet
     case rel => exact ⟨_, (decide (x5_1 < 40)), (by first | rfl | (simp; done) | (simp [*]; done)), H', ⟨by have := HK1.out; first | omega | exact Nat.le_refl _⟩, ⟨HO_3.out⟩, ⟨HB.out⟩⟩
    ·
     rw [if_neg c5] at H
     have c5b0 : decide (x5_1 < (l0.length : Int)) = false := decide_eq_false c5
     clear c5
     (first | rw [c5b0] | (simp only [i64_w, i32_w]; rw [c5b0]) | skip)
     have H' := Aside0.mk H
     clear H
     go_wp2
     go_meet
     case rel => exact ⟨_, (false), (by first | rfl | (simp; done) | (simp [*]; done)), H', ⟨by have := HK1.out; first | omega | exact Nat.le_refl _⟩, ⟨HO_3.out⟩, ⟨HB.out⟩⟩
   case rest =>
    clear HC4
    (try clear c2)
    obtain ⟨kq, x19_3, rfl, HA, HJ3, HO_3, HB⟩ := hcut
    cases kq with
    | zero => exact absurd HA.out (by simp [busbarlaw7_Objects.j1])
    | succ kj3 =>
     have H := HA.out
     clear HA
     simp only [busbarlaw7_Objects.j1] at H
     by_cases c6 : x19_3 = true
     ·
      subst c6
      have H1 : (if 0 ≤ x5_1 then (if x5_1 < (l0.length : Int) then ((busbarlaw0_Within.f (rd l0 x5_1) 12).bind fun t364 => (if (wrap64 ((wrap64 (x4_1 + 1)) + t364)) > 255 then (if (l0.length : Int) > 0 then (if 0 < (l0.length : Int) then ((busbarlaw0_Digit.f (rd l0 0) 2940 245).bind fun t366 => (if 0 ≤ t366 then (if (t366 : Int).toNat ≤ 281474976710656 then (if 1 < (x3_1.length : Int) then (some (x3_1.set (1 : Int).toNat (⟨(rd_T50 x3_1 1).f0, strOfNums (List.replicate (t366 : Int).toNat 0)⟩ : S50))) else (none)) else (none)) else (none))) else (none)) else (some x3_1)) else ((busbarlaw0_Digit.f (rd l0 x5_1) 12 245).bind fun t372 => (if 0 ≤ t372 then (if (t372 : Int).toNat ≤ 281474976710656 then (busbarlaw7_Objects.l1 kj3 l0 x3_1 (wrap64 ((wrap64 (x4_1 + 1)) + t364)) x5_1 (List.replicate (t372 : Int).toNat 0) 0) else (none)) else (none))))) else (none)) else (none)) = some r := by rw [if_pos rfl] at H; exact H
      clear H
      have H := H1
      clear H1
      by_cases c7 : 0 ≤ x5_1
      ·
       rw [if_pos c7] at H
       have c7b0 : decide (0 ≤ x5_1) = true := decide_eq_true c7
       clear c7
       by_cases c8 : x5_1 < (l0.length : Int)
       ·
        rw [if_pos c8] at H
        have c8b0 : decide (x5_1 < (l0.length : Int)) = true := decide_eq_true c8
        clear c8
        replace H := Option.bind_eq_some_iff.mp H
        obtain ⟨t364, A90, H⟩ := H
        have A9 := Aside0.mk A90
        clear A90
        by_cases c10 : (wrap64 ((wrap64 (x4_1 + 1)) + t364)) > 255
        ·
         rw [if_pos c10] at H
         have c10b0 : decide (255 < (wrap64 ((wrap64 (x4_1 + 1)) + t364))) = true := decide_eq_true c10
         clear c10
         by_cases c11 : (l0.length : Int) > 0
         ·
          rw [if_pos c11] at H
          have c11b0 : decide (0 < (l0.length : Int)) = true := decide_eq_true c11
          have c11b1 : decide (0 < l0.length) = true := decide_eq_true (by omega)
          clear c11
          by_cases c12 : 0 < (l0.length : Int)
          ·
           rw [if_pos c12] at H
           have c12b0 : decide (0 < (l0.length : Int)) = true := decide_eq_true c12
           have c12b1 : decide (0 < l0.length) = true := decide_eq_true (by omega)
           clear c12
           replace H := Option.bind_eq_some_iff.mp H
           obtain ⟨t366, A130, H⟩ := H
           have A13 := Aside0.mk A130
           clear A130
           by_cases c14 : 0 ≤ t366
           ·
            rw [if_pos c14] at H
            have c14b0 := eq_true c14
            have c14b1 : decide (0 ≤ t366) = true := decide_eq_true c14
            clear c14
            by_cases c15 : (t366 : Int).toNat ≤ 281474976710656
            ·
             rw [if_pos c15] at H
             have c15b0 := eq_true c15
             have c15b1 : decide ((t366 : Int).toNat ≤ 281474976710656) = true := decide_eq_true c15
             clear c15
             obtain ⟨y367, hy367⟩ : ∃ y_ : List Int, y_ = (List.replicate (t366 : Int).toNat 0) := ⟨_, rfl⟩
             replace H : (if 1 < (x3_1.length : Int) then (some (x3_1.set (1 : Int).toNat (⟨(rd_T50 x3_1 1).f0, strOfNums y367⟩ : S50))) else (none)) = some r := by first | (rw [hy367]; with_reducible exact H) | (have H2_ := (Option.bind_some _ _).symm.trans H; rw [hy367]; with_reducible exact H2_) | (have H2_ := (Option.bind_some _ _).symm.trans H; with_reducible exact H2_) | with_reducible exact H | (rw [hy367]; exact H) | exact H
             have Ny367 := Aside0.mk hy367
             clear hy367
             by_cases c16 : 1 < (x3_1.length : Int)
             ·
              rw [if_pos c16] at H
              have c16b0 : decide (1 < (x3_1.length : Int)) = true := decide_eq_true c16
              have c16b1 : decide (1 < x3_1.length) = true := decide_eq_true (by omega)
              clear c16
              obtain ⟨y370, hy370⟩ : ∃ y_ : List (S50), y_ = (x3_1.set (1 : Int).toNat (⟨(rd_T50 x3_1 1).f0, strOfNums y367⟩ : S50)) := ⟨_, rfl⟩
              replace H : (some y370) = some r := by first | (rw [hy370]; with_reducible exact H) | (have H2_ := (Option.bind_some _ _).symm.trans H; rw [hy370]; with_reducible exact H2_) | (have H2_ := (Option.bind_some _ _).symm.trans H; with_reducible exact H2_) | with_reducible exact H | (rw [hy370]; exact H) | exact H
              have Ny370 := Aside0.mk hy370
              clear hy370
              obtain rfl := Option.some.inj H
              have p363 : 0 ≤ (x5_1 : Int) := of_decide_eq_true (by first | (with_reducible assumption) | assumption)
              have q363 : x5_1 < (l0.length : Int) := of_decide_eq_true (by first | (with_reducible assumption) | assumption)
              obtain ⟨ad363, e363, hx363_0⟩ := Kd.at_int HR0.out x5_1 p363 q363
              cases e363
              replace hx363_0 := (HB.out.cell (World.block_lt_of_cell? w _ hx363_0)).trans hx363_0
              replace p363 := eq_true p363
              replace q363 := eq_true q363
              go_wp2_with (first | ((with_reducible refine gate_callee (f := 12) rfl ?_); refine goesL_ (some 28) rfl rfl Try.func12 (by kernel_rfl) rfl #[.int .i64 (rd l0 x5_1), .int .i64 12] rfl (by (try simp only [List.map_toArray, List.map_cons, List.map_nil]); first | done | rfl | (simp only [List.length_drop, List.length_take]; rfl)) ?_; (with_reducible refine (busbarlaw0_Within.calls (rd l0 x5_1) 12 t364 _ A9.out).mono ?_); rintro e w' ⟨rfl, ⟨nd, rfl⟩⟩; refine ⟨_, rfl, ?_⟩; (try (rw [drewN_self wc]; generalize hq_ : World.drewN wc _ = wc; replace HO_3 := Kd.dqR HO_3 hq_; replace HB := dqB HB hq_; clear hq_)); have p365 : 0 ≤ (0 : Int) := (by omega); have q365 : 0 < (l0.length : Int) := of_decide_eq_true (by first | (with_reducible assumption) | assumption); obtain ⟨ad365, e365, hx365_0⟩ := Kd.at_int HR0.out 0 p365 q365; obtain rfl : ad363 = ad365 := (by injection e365); have qi365 : (0 < l0.length) = True := eq_true (by omega); (try rw [show ((0 : Int)).toNat = 0 from rfl] at hx365_0); (try rw [Addr.add_zero'] at hx365_0); replace hx365_0 := (HB.out.cell (World.block_lt_of_cell? w _ hx365_0)).trans hx365_0; replace p365 := eq_true p365; replace q365 := eq_true q365) | ((with_reducible refine gate_callee (f := 27) rfl ?_); refine goesL_ (some 65) rfl rfl Try.func27 (by kernel_rfl) rfl #[.int .i64 (rd l0 0), .int .i64 2940, .int .i64 245] rfl (by (try simp only [List.map_toArray, List.map_cons, List.map_nil]); first | done | rfl | (simp only [List.length_drop, List.length_take]; rfl)) ?_; (with_reducible refine (busbarlaw0_Digit.calls (rd l0 0) 2940 245 t366 _ A13.out).mono ?_); rintro e w' ⟨rfl, ⟨nd, rfl⟩⟩; refine ⟨_, rfl, ?_⟩; (try (rw [drewN_self wc]; generalize hq_ : World.drewN wc _ = wc; replace HO_3 := Kd.dqR HO_3 hq_; replace HB := dqB HB hq_; clear hq_))) | ((with_reducible refine gate_dst (N := 66) rfl ?_); refine Kd.R_make (Kd.int .u8) _ 5 rfl (N := 66) rfl 58 _ _ rfl t366 rfl rfl Try.underlying58 (.int .u8 0) 1 info5 rfl (by decide) (by omega) 0 (ok := fun _ => True) (okp := fun _ => True) rfl (fun _ hk => hk) trivial (of_decide_eq_true (by first | (with_reducible assumption) | assumption)) (Nat.le_trans (Nat.mul_le_mul_right _ (of_decide_eq_true (by first | (with_reducible assumption) | assumption) : t366.toNat ≤ 281474976710656)) (by omega)) (Below.refl _ _) (Nat.le_refl _) ?_; intro v368 w18 ho19 hb hg_ hnew_; clear hg_ hnew_; (first | rw [← Ny367.out] at ho19 | (simp only [Int.reduceToNat] at ho19; rw [← Ny367.out] at ho19)); replace HO_3 := Aside0.mk (Kd.R_below (HO_3.out) hb); have HO369 := Aside0.mk (Kd.R_lower ho19 (below_size (HB.out))); replace HB := Aside0.mk (below_step (HB.out) hb); clear hb ho19; have hcv20 := own_string (P := Try.prog) Try.underlying58 Try.underlying5 Try.underlying9 (Kd.own_of_R (h1 := fun _ => rfl) HO369.out); have p17 : 0 ≤ (1 : Int) := (by omega); have q17 : (1 : Int) < ((x3_1.length : Int) : Int) := of_decide_eq_true (by first | (with_reducible assumption) | assumption); have qi17 : (1 < x3_1.length) = True := eq_true (by omega); obtain ⟨go17, co17, eo17, gb17, gl17, cl17, HG17⟩ := Kd.R_form HO_3.out (by omega); (first | cases eo17 | (injection eo17 with ea_ en_ ec_; (first | subst ea_ | (injection ea_ with ea_; subst ea_)); subst ec_; clear en_)); have GB17 := Aside0.mk gb17; have GG17 := Aside0.mk HG17; clear gb17 gl17 HG17; obtain ⟨ce17, hcl17, hM17, hcc17, hfr17⟩ := Kd.R_elem HO_3.out z50 (1 : Int) p17 q17; obtain rfl := k50_openM hM17; have hx17_0 : w18.cell? ⟨go17, (1 : Int).toNat * 2, none⟩ = some (.int .i64 ((rd_T50 x3_1 1).f0)) := hcc17 0 _ rfl; have hx17_1 : w18.cell? ⟨go17, (1 : Int).toNat * 2 + 1, none⟩ = some (.string ((rd_T50 x3_1 1).f1)) := hcc17 1 _ rfl; have hf17_0 : w18.frozen? ⟨go17, (1 : Int).toNat * 2, none⟩ = false := hfr17 0; have hf17_1 : w18.frozen? ⟨go17, (1 : Int).toNat * 2 + 1, none⟩ = false := hfr17 1; clear hcl17 hcc17 hfr17 hM17; (try rw [show ((1 : Int)).toNat = 1 from rfl] at hx17_0); (try simp only [Nat.reduceMul, Nat.zero_mul, Nat.zero_add, Nat.reduceAdd] at hx17_0); (try rw [show ((1 : Int)).toNat = 1 from rfl] at hf17_0); (try simp only [Nat.reduceMul, Nat.zero_mul, Nat.zero_add, Nat.reduceAdd] at hf17_0); (try rw [show ((1 : Int)).toNat = 1 from rfl] at hx17_1); (try simp only [Nat.reduceMul, Nat.zero_mul, Nat.zero_add, Nat.reduceAdd] at hx17_1); (try rw [show ((1 : Int)).toNat = 1 from rfl] at hf17_1); (try simp only [Nat.reduceMul, Nat.zero_mul, Nat.zero_add, Nat.reduceAdd] at hf17_1); replace p17 := eq_true p17; replace q17 := eq_true q17; have HX21 := Aside0.mk (show Kd.R k50 50 w18 w.heap.size (fun _ => True) (.slice (some ⟨go17, 0, none⟩) x3_1.length co17) x3_1 from (HO_3.out)); obtain ⟨ce21, hcl21, hM21, hcc21, hfr21⟩ := Kd.R_elem HX21.out z50 (1 : Int) (by omega) (by have h_ : (1 : Int) < ((x3_1.length : Int) : Int) := of_decide_eq_true (by first | (with_reducible assumption) | assumption); first | exact h_ | (have e_ := (Kd.R_reads' HO_3.out).1; omega) | simpa using h_); obtain rfl := k50_openM hM21; have HP21 := Kd.R_seg HX21.out (1 : Int) (by omega) (by have h_ : (1 : Int) < ((x3_1.length : Int) : Int) := of_decide_eq_true (by first | (with_reducible assumption) | assumption); first | exact h_ | (have e_ := (Kd.R_reads' HO_3.out).1; omega) | simpa using h_) (seg := [.string (strOfNums y367)]) (j := 1) hcl21 hcc21 (show 2 ≤ 2 from by decide) (x' := (⟨(rd_T50 x3_1 1).f0, strOfNums y367⟩ : S50)) (k50_mkM _ _ _ (⟨(rd_T50 x3_1 1).f0, strOfNums y367⟩ : S50) ) (fun _ hk => hk); have hx21_1 := hcc21 1 _ rfl; (try simp only [show (k50).sz = 2 from rfl, Nat.mul_one, Nat.add_zero] at hx21_1); (try rw [show ((1 : Int)).toNat = 1 from rfl] at hx21_1); (try simp only [Nat.reduceMul, Nat.zero_mul, Nat.zero_add, Nat.reduceAdd] at hx21_1); have hf21_1 := hfr21 1; (try simp only [show (k50).sz = 2 from rfl, Nat.mul_one, Nat.add_zero] at hf21_1); (try rw [show ((1 : Int)).toNat = 1 from rfl] at hf21_1); (try simp only [Nat.reduceMul, Nat.zero_mul, Nat.zero_add, Nat.reduceAdd] at hf21_1); clear hcl21 hcc21 hfr21 hM21) | ((with_reducible refine gate_store (t := 9) (p := 69) rfl ?_); refine store_event (t := 9) (p := 69) (v := ?vo_w22) (w1 := (w18.setCell ⟨go17, 3, none⟩ (.string (strOfNums y367)))) ?hg ?ho ?hn ?hr ?_; (case ho => rfl); (case hg => rfl); (case hn => rfl); (case hr => first | (go_simp; done) | (go_simp; rfl)); intro w22 hw; have hg : w18.grownBy w22 (some go17) := (by rw [hw]; exact HP21.2); have hp_ : Kd.R k50 50 w22 w.heap.size (fun _ => True) (.slice (some ⟨go17, 0, none⟩) x3_1.length co17) y370 := (by rw [hw, Ny370.out]; exact HP21.1); clear HP21; replace HO369 := Aside0.mk (Kd.R_over' (v := (.slice (some ⟨go17, 0, none⟩) x3_1.length co17)) (HO369.out) (Kd.R_typed HO_3.out) (by decide) hg); replace HO_3 := Aside0.mk (hp_); replace HB := Aside0.mk ((by rw [hw]; exact below_set (HB.out) GB17.out : Below w.heap.size w w22)); clear hg hw hp_))
              go_ret
              exact ⟨_, by first | rfl | (simp [errW_none, errW_some] <;> rfl) | (simp [*, errW_none, errW_some] <;> rfl), by (with_reducible repeat (first | apply Kd.R_alloc | apply Kd.R_drewN | apply Kd.R_drew)); exact HO_3.out, HB.out⟩
             ·
              rw [if_neg c16] at H
              exact absurd H (by simp)
            ·
             rw [if_neg c15] at H
             exact absurd H (by simp)
           ·
            rw [if_neg c14] at H
            exact absurd H (by simp)
          ·
           rw [if_neg c12] at H
           exact absurd H (by simp)
         ·
          rw [if_neg c11] at H
          have c11b0 : decide (0 < (l0.length : Int)) = false := decide_eq_false c11
          have c11b1 : decide (0 < l0.length) = false := decide_eq_false (by omega)
          clear c11
          obtain rfl := Option.some.inj H
          have p363 : 0 ≤ (x5_1 : Int) := of_decide_eq_true (by first | (with_reducible assumption) | assumption)
          have q363 : x5_1 < (l0.length : Int) := of_decide_eq_true (by first | (with_reducible assumption) | assumption)
          obtain ⟨ad363, e363, hx363_0⟩ := Kd.at_int HR0.out x5_1 p363 q363
          cases e363
          replace hx363_0 := (HB.out.cell (World.block_lt_of_cell? w _ hx363_0)).trans hx363_0
          replace p363 := eq_true p363
          replace q363 := eq_true q363
          go_wp2_with (first | ((with_reducible refine gate_callee (f := 12) rfl ?_); refine goesL_ (some 28) rfl rfl Try.func12 (by kernel_rfl) rfl #[.int .i64 (rd l0 x5_1), .int .i64 12] rfl (by (try simp only [List.map_toArray, List.map_cons, List.map_nil]); first | done | rfl | (simp only [List.length_drop, List.length_take]; rfl)) ?_; (with_reducible refine (busbarlaw0_Within.calls (rd l0 x5_1) 12 t364 _ A9.out).mono ?_); rintro e w' ⟨rfl, ⟨nd, rfl⟩⟩; refine ⟨_, rfl, ?_⟩))
          go_ret
          exact ⟨_, by first | rfl | (simp [errW_none, errW_some] <;> rfl) | (simp [*, errW_none, errW_some] <;> rfl), by (with_reducible repeat (first | apply Kd.R_alloc | apply Kd.R_drewN | apply Kd.R_drew)); exact HO_3.out, by repeat (first | (with_reducible first | exact HB.out | apply below_alloc | apply pw_below_drewN | apply below_drew1) | exact HB.out)⟩
        ·
         rw [if_neg c10] at H
         have c10b0 : decide (255 < (wrap64 ((wrap64 (x4_1 + 1)) + t364))) = false := decide_eq_false c10
         clear c10
         replace H := Option.bind_eq_some_iff.mp H
         obtain ⟨t372, A230, H⟩ := H
         have A23 := Aside0.mk A230
         clear A230
         by_cases c24 : 0 ≤ t372
         ·
          rw [if_pos c24] at H
          have c24b0 := eq_true c24
          have c24b1 : decide (0 ≤ t372) = true := decide_eq_true c24
          clear c24
          by_cases c25 : (t372 : Int).toNat ≤ 281474976710656
          ·
           rw [if_pos c25] at H
           have c25b0 := eq_true c25
           have c25b1 : decide ((t372 : Int).toNat ≤ 281474976710656) = true := decide_eq_true c25
           clear c25
           obtain ⟨y373, hy373⟩ : ∃ y_ : List Int, y_ = (List.replicate (t372 : Int).toNat 0) := ⟨_, rfl⟩
           replace H : (busbarlaw7_Objects.l1 kj3 l0 x3_1 (wrap64 ((wrap64 (x4_1 + 1)) + t364)) x5_1 y373 0) = some r := by first | (rw [hy373]; with_reducible exact H) | (have H2_ := (Option.bind_some _ _).symm.trans H; rw [hy373]; with_reducible exact H2_) | (have H2_ := (Option.bind_some _ _).symm.trans H; with_reducible exact H2_) | with_reducible exact H | (rw [hy373]; exact H) | exact H
           have Ny373 := Aside0.mk hy373
           clear hy373
           have H' := Aside0.mk H
           clear H
           have p363 : 0 ≤ (x5_1 : Int) := of_decide_eq_true (by first | (with_reducible assumption) | assumption)
           have q363 : x5_1 < (l0.length : Int) := of_decide_eq_true (by first | (with_reducible assumption) | assumption)
           obtain ⟨ad363, e363, hx363_0⟩ := Kd.at_int HR0.out x5_1 p363 q363
           cases e363
           replace hx363_0 := (HB.out.cell (World.block_lt_of_cell? w _ hx363_0)).trans hx363_0
           replace p363 := eq_true p363
           replace q363 := eq_true q363
           go_wp2_with (first | ((with_reducible refine gate_callee (f := 12) rfl ?_); refine goesL_ (some 28) rfl rfl Try.func12 (by kernel_rfl) rfl #[.int .i64 (rd l0 x5_1), .int .i64 12] rfl (by (try simp only [List.map_toArray, List.map_cons, List.map_nil]); first | done | rfl | (simp only [List.length_drop, List.length_take]; rfl)) ?_; (with_reducible refine (busbarlaw0_Within.calls (rd l0 x5_1) 12 t364 _ A9.out).mono ?_); rintro e w' ⟨rfl, ⟨nd, rfl⟩⟩; refine ⟨_, rfl, ?_⟩; have p371 : 0 ≤ (x5_1 : Int) := of_decide_eq_true (by first | (with_reducible assumption) | assumption); have q371 : x5_1 < (l0.length : Int) := of_decide_eq_true (by first | (with_reducible assumption) | assumption); obtain ⟨ad371, e371, hx371_0⟩ := Kd.at_int HR0.out x5_1 p371 q371; obtain rfl : ad363 = ad371 := (by injection e371); replace hx371_0 := (HB.out.cell (World.block_lt_of_cell? w _ hx371_0)).trans hx371_0; replace p371 := eq_true p371; replace q371 := eq_true q371) | ((with_reducible refine gate_callee (f := 27) rfl ?_); refine goesL_ (some 36) rfl rfl Try.func27 (by kernel_rfl) rfl #[.int .i64 (rd l0 x5_1), .int .i64 12, .int .i64 245] rfl (by (try simp only [List.map_toArray, List.map_cons, List.map_nil]); first | done | rfl | (simp only [List.length_drop, List.length_take]; rfl)) ?_; (with_reducible refine (busbarlaw0_Digit.calls (rd l0 x5_1) 12 245 t372 _ A23.out).mono ?_); rintro e w' ⟨rfl, ⟨nd, rfl⟩⟩; refine ⟨_, rfl, ?_⟩) | ((with_reducible refine gate_dst (N := 37) rfl ?_); refine Kd.R_make (Kd.int .u8) _ 5 rfl (N := 37) rfl 58 _ _ rfl t372 rfl rfl Try.underlying58 (.int .u8 0) 1 info5 rfl (by decide) (by omega) 0 (ok := fun _ => True) (okp := fun _ => True) rfl (fun _ hk => hk) trivial (of_decide_eq_true (by first | (with_reducible assumption) | assumption)) (Nat.le_trans (Nat.mul_le_mul_right _ (of_decide_eq_true (by first | (with_reducible assumption) | assumption) : t372.toNat ≤ 281474976710656)) (by omega)) (Below.refl _ _) (Nat.le_refl _) ?_; intro v374 w26 ho27 hb hg_ hnew_; clear hg_ hnew_; (first | rw [← Ny373.out] at ho27 | (simp only [Int.reduceToNat] at ho27; rw [← Ny373.out] at ho27)); replace HO_3 := Aside0.mk (Kd.R_below (by (with_reducible repeat (first | apply Kd.R_alloc | apply Kd.R_drewN | apply Kd.R_drew)); exact HO_3.out) hb); have HO375 := Aside0.mk (Kd.R_lower ho27 (below_size (by repeat (first | (with_reducible first | exact HB.out | apply below_alloc | apply pw_below_drewN | apply below_drew1) | exact HB.out)))); replace HB := Aside0.mk (below_step (by repeat (first | (with_reducible first | exact HB.out | apply below_alloc | apply pw_below_drewN | apply below_drew1) | exact HB.out)) hb); clear hb ho27))
           go_loopg [7] kj3 (fun kq v7 w' => ∃ (x6_3 : List Int) (x7_3 : Int), v7 = .int .i64 x7_3 ∧ Aside0 (busbarlaw7_Objects.l1 kq l0 x3_1 (wrap64 ((wrap64 (x4_1 + 1)) + t364)) x5_1 x6_3 x7_3 = some r) ∧ Aside0 (kq ≤ kj3) ∧ Aside0 (Kd.R k50 50 w' w.heap.size (fun _ => True) u3 x3_1) ∧ Aside0 (Kd.R (Kd.int .u8) 5 w' w.heap.size (fun _ => True) v374 x6_3) ∧ Aside0 (Below w.heap.size w w'))
           case atStart => exact ⟨(y373), (0), (by first | rfl | (simp; done) | (simp [*]; done)), H', ⟨Nat.le_refl _⟩, ⟨HO_3.out⟩, ⟨HO375.out⟩, ⟨HB.out⟩⟩
           case round =>
            clear H'
            (try clear c7b0); (try clear c8b0); (try clear c10b0); (try clear c24b0); (try clear c24b1); (try clear c25b0); (try clear c25b1); (try clear hx363_0); (try clear hx371_0); (try clear p363); (try clear p371); (try clear q363); (try clear q371)
            obtain ⟨x6_3, x7_3, rfl, HA, HK3, HO_3, HO_6, HB⟩ := hrel
            cases gk with
            | zero => exact absurd HA.out (by simp [busbarlaw7_Objects.l1])
            | succ k3 =>
             have H := HA.out
             clear HA
             simp only [busbarlaw7_Objects.l1] at H
             by_cases c28 : x7_3 < (x6_3.length : Int)
             ·
              rw [if_pos c28] at H
              have c28b0 : decide (x7_3 < (x6_3.length : Int)) = true := decide_eq_true c28
              clear c28
              by_cases c29 : 0 ≤ x7_3
              ·
               rw [if_pos c29] at H
               have c29b0 : decide (0 ≤ x7_3) = true := decide_eq_true c29
               clear c29
               obtain ⟨y376, hy376⟩ : ∃ y_ : List Int, y_ = (x6_3.set (x7_3 : Int).toNat ((wrap64 (97 + (Int.tmod x7_3 26))) % 256)) := ⟨_, rfl⟩
               replace H : (busbarlaw7_Objects.l1 k3 l0 x3_1 (wrap64 ((wrap64 (x4_1 + 1)) + t364)) x5_1 y376 (wrap64 (x7_3 + 1))) = some r := by first | (rw [hy376]; with_reducible exact H) | (have H2_ := (Option.bind_some _ _).symm.trans H; rw [hy376]; with_reducible exact H2_) | (have H2_ := (Option.bind_some _ _).symm.trans H; with_reducible exact H2_) | with_reducible exact H | (rw [hy376]; exact H) | exact H
               have Ny376 := Aside0.mk hy376
               clear hy376
               have H' := Aside0.mk H
               clear H
               obtain ⟨Ao31, co31, eo31⟩ := Kd.R_slice HO_6.out
               subst eo31
               have p30 : 0 ≤ (x7_3 : Int) := of_decide_eq_true (by first | (with_reducible assumption) | assumption)
               have q30 : (x7_3 : Int) < ((x6_3.length : Int) : Int) := of_decide_eq_true (by first | (with_reducible assumption) | assumption)
               obtain ⟨go30, co30, eo30, gb30, gl30, cl30, HG30⟩ := Kd.R_form HO_6.out (by omega)
               (first | cases eo30 | (injection eo30 with ea_ en_ ec_; (first | subst ea_ | (injection ea_ with ea_; subst ea_)); subst ec_; clear en_))
               have GB30 := Aside0.mk gb30
               have GG30 := Aside0.mk HG30
               clear gb30 gl30 HG30
               obtain ⟨hx30_0, hf30_0⟩ := Kd.R_celln 0 HO_6.out (x7_3 : Int) p30 q30
               replace p30 := eq_true p30
               replace q30 := eq_true q30
               have HP32 := Kd.R_putg HO_6.out (x7_3 : Int) ((wrap64 (97 + (Int.tmod x7_3 26))) % 256)
               go_wp2_with (first | ((with_reducible refine gate_store (t := 5) (p := 50) rfl ?_); refine store_event (t := 5) (p := 50) (v := ?vo_w33) (w1 := (wr.setCell ⟨go30, (x7_3 : Int).toNat, none⟩ (.int .u8 ((wrap64 (97 + (Int.tmod x7_3 26))) % 256)))) ?hg ?ho ?hn ?hr ?_; (case ho => rfl); (case hg => rfl); (case hn => rfl); (case hr => first | (go_simp; done) | (go_simp; rfl)); intro w33 hw; have hg : wr.grownBy w33 (some go30) := (by rw [hw]; exact HP32.2); have hp_ : Kd.R (Kd.int .u8) 5 w33 w.heap.size (fun _ => True) (.slice (some ⟨go30, 0, none⟩) x6_3.length co31) y376 := (by rw [hw, Ny376.out]; exact HP32.1); clear HP32; replace HO_3 := Aside0.mk (Kd.R_over' (v := (.slice (some ⟨go30, 0, none⟩) x6_3.length co31)) (HO_3.out) (Kd.R_typed HO_6.out) (by decide) hg); replace HO_6 := Aside0.mk (hp_); replace HB := Aside0.mk ((by rw [hw]; exact below_set (HB.out) GB30.out : Below w.heap.size w w33)); clear hg hw hp_))
               go_roundg k3
               case measure => have := HK1.out; have := HJ3.out; have := HK3.out; omega
               case rel => exact ⟨(y376), (wrap64 (x7_3 + 1)), (by first | rfl | (simp; done) | (simp [*]; done)), H', ⟨by have := HK1.out; have := HJ3.out; have := HK3.out; omega⟩, ⟨HO_3.out⟩, ⟨HO_6.out⟩, ⟨HB.out⟩⟩
              ·
               rw [if_neg c29] at H
               exact absurd H (by simp)
             ·
              rw [if_neg c28] at H
              have c28b0 : decide (x7_3 < (x6_3.length : Int)) = false := decide_eq_false c28
              clear c28
              by_cases c34 : x3_1.length < 5864062014805
              ·
               rw [if_pos c34] at H
               have LMc34 := Aside0.mk c34
               clear c34
               obtain ⟨y377, hy377⟩ : ∃ y_ : List (S50), y_ = (x3_1 ++ [(⟨(wrap64 ((wrap64 (x4_1 + 1)) + t364)), strOfNums x6_3⟩ : S50)]) := ⟨_, rfl⟩
               replace H : (busbarlaw7_Objects.l0 k3 l0 y377 (wrap64 ((wrap64 (x4_1 + 1)) + t364)) (wrap64 (x5_1 + 1))) = some r := by first | (rw [hy377]; with_reducible exact H) | (have H2_ := (Option.bind_some _ _).symm.trans H; rw [hy377]; with_reducible exact H2_) | (have H2_ := (Option.bind_some _ _).symm.trans H; with_reducible exact H2_) | with_reducible exact H | (rw [hy377]; exact H) | exact H
               have Ny377 := Aside0.mk hy377
               clear hy377
               have H' := Aside0.mk H
               clear H
               obtain ⟨Ao35, co35, eo35⟩ := Kd.R_slice HO_6.out
               subst eo35
               have hcv36 := own_string (P := Try.prog) Try.underlying58 Try.underlying5 Try.underlying9 (Kd.own_of_R (h1 := fun _ => rfl) HO_6.out)
               go_wp2_with (first | ((with_reducible refine gate_builtin (b := .append) (xs := #[.tmp 51, .tmp 56]) rfl ?_); at_builtin; refine Kd.R_append k50 (w0 := w) w.heap.size rfl (.tmp 51) (.tmp 56) 25 50 (.agg #[(.int .i64 0), (.string ⟨#[]⟩)]) 24 rfl Try.underlying25 info50 rfl (by decide) (by omega) u3 x3_1 (⟨(wrap64 ((wrap64 (x4_1 + 1)) + t364)), strOfNums x6_3⟩ : S50) [.int .i64 (wrap64 ((wrap64 (x4_1 + 1)) + t364)), .string (strOfNums x6_3)] (fun _ => True) (fun _ => False) rfl rfl ?aP (fun _ hk => hk.elim) ?aF ?aO ?aB ?aS ?aL ?_; (case aP => exact k50_mkM _ _ _ (⟨(wrap64 ((wrap64 (x4_1 + 1)) + t364)), strOfNums x6_3⟩ : S50)); (case aB => exact (HB.out)); (case aF => exact (fun _ _ => trivial)); (case aO => exact (HO_3.out)); (case aS => exact (below_size (HB.out))); (case aL => have := LMc34.out; omega); intro v378 w37 ho hb hg hat; rw [← Ny377.out] at ho; replace HO_6 := Aside0.mk (Kd.R_over' (HO_6.out) (Kd.R_typed (HO_3.out)) (by decide) hg); replace HB := Aside0.mk (hb); have HO379 := Aside0.mk (ho); clear HO_3; clear ho hb hg hat))
               go_roundg k3
               case measure => have := HK1.out; have := HJ3.out; have := HK3.out; omega
               case rel => exact ⟨(y377), ((wrap64 ((wrap64 (x4_1 + 1)) + t364))), (wrap64 (x5_1 + 1)), (by first | rfl | (simp; done) | (simp [*]; done)), (by first | rfl | (simp; done) | (simp [*]; done)), H', ⟨by have := HK1.out; have := HJ3.out; have := HK3.out; omega⟩, ⟨HO379.out⟩, ⟨HB.out⟩⟩
              ·
               rw [if_neg c34] at H
               exact absurd H (by simp)
          ·
           rw [if_neg c25] at H
           exact absurd H (by simp)
         ·
          rw [if_neg c24] at H
          exact absurd H (by simp)
       ·
        rw [if_neg c8] at H
        exact absurd H (by simp)
      ·
       rw [if_neg c7] at H
       exact absurd H (by simp)
     ·
      replace c6 := Bool.eq_false_iff.mpr c6
      subst c6
      have H1 : (if (l0.length : Int) > 0 then (if 0 < (l0.length : Int) then ((busbarlaw0_Digit.f (rd l0 0) 2940 245).bind fun t358 => (if 0 ≤ t358 then (if (t358 : Int).toNat ≤ 281474976710656 then (if 1 < (x3_1.length : Int) then (some (x3_1.set (1 : Int).toNat (⟨(rd_T50 x3_1 1).f0, strOfNums (List.replicate (t358 : Int).toNat 0)⟩ : S50))) else (none)) else (none)) else (none))) else (none)) else (some x3_1)) = some r := by rw [if_neg (show ¬ (false = true) by decide)] at H; exact H
      clear H
      have H := H1
      clear H1
      by_cases c38 : (l0.length : Int) > 0
      ·
       rw [if_pos c38] at H
       have c38b0 : decide (0 < (l0.length : Int)) = true := decide_eq_true c38
       have c38b1 : decide (0 < l0.length) = true := decide_eq_true (by omega)
       clear c38
       by_cases c39 : 0 < (l0.length : Int)
       ·
        rw [if_pos c39] at H
        have c39b0 : decide (0 < (l0.length : Int)) = true := decide_eq_true c39
        have c39b1 : decide (0 < l0.length) = true := decide_eq_true (by omega)
        clear c39
        replace H := Option.bind_eq_some_iff.mp H
        obtain ⟨t358, A400, H⟩ := H
        have A40 := Aside0.mk A400
        clear A400
        by_cases c41 : 0 ≤ t358
        ·
         rw [if_pos c41] at H
         have c41b0 := eq_true c41
         have c41b1 : decide (0 ≤ t358) = true := decide_eq_true c41
         clear c41
         by_cases c42 : (t358 : Int).toNat ≤ 281474976710656
         ·
          rw [if_pos c42] at H
          have c42b0 := eq_true c42
          have c42b1 : decide ((t358 : Int).toNat ≤ 281474976710656) = true := decide_eq_true c42
          clear c42
          obtain ⟨y359, hy359⟩ : ∃ y_ : List Int, y_ = (List.replicate (t358 : Int).toNat 0) := ⟨_, rfl⟩
          replace H : (if 1 < (x3_1.length : Int) then (some (x3_1.set (1 : Int).toNat (⟨(rd_T50 x3_1 1).f0, strOfNums y359⟩ : S50))) else (none)) = some r := by first | (rw [hy359]; with_reducible exact H) | (have H2_ := (Option.bind_some _ _).symm.trans H; rw [hy359]; with_reducible exact H2_) | (have H2_ := (Option.bind_some _ _).symm.trans H; with_reducible exact H2_) | with_reducible exact H | (rw [hy359]; exact H) | exact H
          have Ny359 := Aside0.mk hy359
          clear hy359
          by_cases c43 : 1 < (x3_1.length : Int)
          ·
           rw [if_pos c43] at H
           have c43b0 : decide (1 < (x3_1.length : Int)) = true := decide_eq_true c43
           have c43b1 : decide (1 < x3_1.length) = true := decide_eq_true (by omega)
           clear c43
           obtain ⟨y362, hy362⟩ : ∃ y_ : List (S50), y_ = (x3_1.set (1 : Int).toNat (⟨(rd_T50 x3_1 1).f0, strOfNums y359⟩ : S50)) := ⟨_, rfl⟩
           replace H : (some y362) = some r := by first | (rw [hy362]; with_reducible exact H) | (have H2_ := (Option.bind_some _ _).symm.trans H; rw [hy362]; with_reducible exact H2_) | (have H2_ := (Option.bind_some _ _).symm.trans H; with_reducible exact H2_) | with_reducible exact H | (rw [hy362]; exact H) | exact H
           have Ny362 := Aside0.mk hy362
           clear hy362
           obtain rfl := Option.some.inj H
           have p357 : 0 ≤ (0 : Int) := (by omega)
           have q357 : 0 < (l0.length : Int) := of_decide_eq_true (by first | (with_reducible assumption) | assumption)
           obtain ⟨ad357, e357, hx357_0⟩ := Kd.at_int HR0.out 0 p357 q357
           cases e357
           have qi357 : (0 < l0.length) = True := eq_true (by omega)
           (try rw [show ((0 : Int)).toNat = 0 from rfl] at hx357_0)
           (try rw [Addr.add_zero'] at hx357_0)
           replace hx357_0 := (HB.out.cell (World.block_lt_of_cell? w _ hx357_0)).trans hx357_0
           replace p357 := eq_true p357
           replace q357 := eq_true q357
           go_wp2_with (first | ((with_reducible refine gate_callee (f := 27) rfl ?_); refine goesL_ (some 65) rfl rfl Try.func27 (by kernel_rfl) rfl #[.int .i64 (rd l0 0), .int .i64 2940, .int .i64 245] rfl (by (try simp only [List.map_toArray, List.map_cons, List.map_nil]); first | done | rfl | (simp only [List.length_drop, List.length_take]; rfl)) ?_; (with_reducible refine (busbarlaw0_Digit.calls (rd l0 0) 2940 245 t358 _ A40.out).mono ?_); rintro e w' ⟨rfl, ⟨nd, rfl⟩⟩; refine ⟨_, rfl, ?_⟩; (try (rw [drewN_self wc]; generalize hq_ : World.drewN wc _ = wc; replace HO_3 := Kd.dqR HO_3 hq_; replace HB := dqB HB hq_; clear hq_))) | ((with_reducible refine gate_dst (N := 66) rfl ?_); refine Kd.R_make (Kd.int .u8) _ 5 rfl (N := 66) rfl 58 _ _ rfl t358 rfl rfl Try.underlying58 (.int .u8 0) 1 info5 rfl (by decide) (by omega) 0 (ok := fun _ => True) (okp := fun _ => True) rfl (fun _ hk => hk) trivial (of_decide_eq_true (by first | (with_reducible assumption) | assumption)) (Nat.le_trans (Nat.mul_le_mul_right _ (of_decide_eq_true (by first | (with_reducible assumption) | assumption) : t358.toNat ≤ 281474976710656)) (by omega)) (Below.refl _ _) (Nat.le_refl _) ?_; intro v360 w45 ho46 hb hg_ hnew_; clear hg_ hnew_; (first | rw [← Ny359.out] at ho46 | (simp only [Int.reduceToNat] at ho46; rw [← Ny359.out] at ho46)); replace HO_3 := Aside0.mk (Kd.R_below (HO_3.out) hb); have HO361 := Aside0.mk (Kd.R_lower ho46 (below_size (HB.out))); replace HB := Aside0.mk (below_step (HB.out) hb); clear hb ho46; have hcv47 := own_string (P := Try.prog) Try.underlying58 Try.underlying5 Try.underlying9 (Kd.own_of_R (h1 := fun _ => rfl) HO361.out); have p44 : 0 ≤ (1 : Int) := (by omega); have q44 : (1 : Int) < ((x3_1.length : Int) : Int) := of_decide_eq_true (by first | (with_reducible assumption) | assumption); have qi44 : (1 < x3_1.length) = True := eq_true (by omega); obtain ⟨go44, co44, eo44, gb44, gl44, cl44, HG44⟩ := Kd.R_form HO_3.out (by omega); (first | cases eo44 | (injection eo44 with ea_ en_ ec_; (first | subst ea_ | (injection ea_ with ea_; subst ea_)); subst ec_; clear en_)); have GB44 := Aside0.mk gb44; have GG44 := Aside0.mk HG44; clear gb44 gl44 HG44; obtain ⟨ce44, hcl44, hM44, hcc44, hfr44⟩ := Kd.R_elem HO_3.out z50 (1 : Int) p44 q44; obtain rfl := k50_openM hM44; have hx44_0 : w45.cell? ⟨go44, (1 : Int).toNat * 2, none⟩ = some (.int .i64 ((rd_T50 x3_1 1).f0)) := hcc44 0 _ rfl; have hx44_1 : w45.cell? ⟨go44, (1 : Int).toNat * 2 + 1, none⟩ = some (.string ((rd_T50 x3_1 1).f1)) := hcc44 1 _ rfl; have hf44_0 : w45.frozen? ⟨go44, (1 : Int).toNat * 2, none⟩ = false := hfr44 0; have hf44_1 : w45.frozen? ⟨go44, (1 : Int).toNat * 2 + 1, none⟩ = false := hfr44 1; clear hcl44 hcc44 hfr44 hM44; (try rw [show ((1 : Int)).toNat = 1 from rfl] at hx44_0); (try simp only [Nat.reduceMul, Nat.zero_mul, Nat.zero_add, Nat.reduceAdd] at hx44_0); (try rw [show ((1 : Int)).toNat = 1 from rfl] at hf44_0); (try simp only [Nat.reduceMul, Nat.zero_mul, Nat.zero_add, Nat.reduceAdd] at hf44_0); (try rw [show ((1 : Int)).toNat = 1 from rfl] at hx44_1); (try simp only [Nat.reduceMul, Nat.zero_mul, Nat.zero_add, Nat.reduceAdd] at hx44_1); (try rw [show ((1 : Int)).toNat = 1 from rfl] at hf44_1); (try simp only [Nat.reduceMul, Nat.zero_mul, Nat.zero_add, Nat.reduceAdd] at hf44_1); replace p44 := eq_true p44; replace q44 := eq_true q44; have HX48 := Aside0.mk (show Kd.R k50 50 w45 w.heap.size (fun _ => True) (.slice (some ⟨go44, 0, none⟩) x3_1.length co44) x3_1 from (HO_3.out)); obtain ⟨ce48, hcl48, hM48, hcc48, hfr48⟩ := Kd.R_elem HX48.out z50 (1 : Int) (by omega) (by have h_ : (1 : Int) < ((x3_1.length : Int) : Int) := of_decide_eq_true (by first | (with_reducible assumption) | assumption); first | exact h_ | (have e_ := (Kd.R_reads' HO_3.out).1; omega) | simpa using h_); obtain rfl := k50_openM hM48; have HP48 := Kd.R_seg HX48.out (1 : Int) (by omega) (by have h_ : (1 : Int) < ((x3_1.length : Int) : Int) := of_decide_eq_true (by first | (with_reducible assumption) | assumption); first | exact h_ | (have e_ := (Kd.R_reads' HO_3.out).1; omega) | simpa using h_) (seg := [.string (strOfNums y359)]) (j := 1) hcl48 hcc48 (show 2 ≤ 2 from by decide) (x' := (⟨(rd_T50 x3_1 1).f0, strOfNums y359⟩ : S50)) (k50_mkM _ _ _ (⟨(rd_T50 x3_1 1).f0, strOfNums y359⟩ : S50) ) (fun _ hk => hk); have hx48_1 := hcc48 1 _ rfl; (try simp only [show (k50).sz = 2 from rfl, Nat.mul_one, Nat.add_zero] at hx48_1); (try rw [show ((1 : Int)).toNat = 1 from rfl] at hx48_1); (try simp only [Nat.reduceMul, Nat.zero_mul, Nat.zero_add, Nat.reduceAdd] at hx48_1); have hf48_1 := hfr48 1; (try simp only [show (k50).sz = 2 from rfl, Nat.mul_one, Nat.add_zero] at hf48_1); (try rw [show ((1 : Int)).toNat = 1 from rfl] at hf48_1); (try simp only [Nat.reduceMul, Nat.zero_mul, Nat.zero_add, Nat.reduceAdd] at hf48_1); clear hcl48 hcc48 hfr48 hM48) | ((with_reducible refine gate_store (t := 9) (p := 69) rfl ?_); refine store_event (t := 9) (p := 69) (v := ?vo_w49) (w1 := (w45.setCell ⟨go44, 3, none⟩ (.string (strOfNums y359)))) ?hg ?ho ?hn ?hr ?_; (case ho => rfl); (case hg => rfl); (case hn => rfl); (case hr => first | (go_simp; done) | (go_simp; rfl)); intro w49 hw; have hg : w45.grownBy w49 (some go44) := (by rw [hw]; exact HP48.2); have hp_ : Kd.R k50 50 w49 w.heap.size (fun _ => True) (.slice (some ⟨go44, 0, none⟩) x3_1.length co44) y362 := (by rw [hw, Ny362.out]; exact HP48.1); clear HP48; replace HO361 := Aside0.mk (Kd.R_over' (v := (.slice (some ⟨go44, 0, none⟩) x3_1.length co44)) (HO361.out) (Kd.R_typed HO_3.out) (by decide) hg); replace HO_3 := Aside0.mk (hp_); replace HB := Aside0.mk ((by rw [hw]; exact below_set (HB.out) GB44.out : Below w.heap.size w w49)); clear hg hw hp_))
           go_ret
           exact ⟨_, by first | rfl | (simp [errW_none, errW_some] <;> rfl) | (simp [*, errW_none, errW_some] <;> rfl), by (with_reducible repeat (first | apply Kd.R_alloc | apply Kd.R_drewN | apply Kd.R_drew)); exact HO_3.out, HB.out⟩
          ·
           rw [if_neg c43] at H
           exact absurd H (by simp)
         ·
          rw [if_neg c42] at H
          exact absurd H (by simp)
        ·
         rw [if_neg c41] at H
         exact absurd H (by simp)
       ·
        rw [if_neg c39] at H
        exact absurd H (by simp)
      ·
       rw [if_neg c38] at H
       have c38b0 : decide (0 < (l0.length : Int)) = false := decide_eq_false c38
       have c38b1 : decide (0 < l0.length) = false := decide_eq_false (by omega)
       clear c38
       obtain rfl := Option.some.inj H
       go_wp2
       go_ret
       exact ⟨_, by first | rfl | (simp [errW_none, errW_some] <;> rfl) | (simp [*, errW_none, errW_some] <;> rfl), by (with_reducible repeat (first | apply Kd.R_alloc | apply Kd.R_drewN | apply Kd.R_drew)); exact HO_3.out, HB.out⟩
end Go.Proofs.Ytjlbgopgeepiaaa.PConf
set_option linter.unusedVariables false
set_option linter.unusedSimpArgs false
namespace Go.Proofs.Ytjlbgopgeepiaaa.LemSpanConf
open Go.RowKit Go.Proofs.Ytjlbgopgeepiaaa.PConf Go.Proofs.YtjlbgopgeepiaaaW.PrintWords Go.Proofs.YtjlbgopgeepiaaaW.PrintLast Go.Proofs.YtjlbgopgeepiaaaW.PrintMore Go.Proofs.Ytjlbgopgeepiaaa.Num
abbrev S := S46
def Rt (s : S) : Prop := 0 ≤ s.f0 ∧ s.f0 < 4 ∧ 0 ≤ s.f1 ∧ s.f2 ≤ 65536 ∧ s.f1 < s.f2
instance (s : S) : Decidable (Rt s) := by unfold Rt; infer_instance
def Ah (a b : S) : Prop := a.f0 < b.f0 ∨ (a.f0 = b.f0 ∧ a.f2 < b.f1)
instance (a b : S) : Decidable (Ah a b) := by unfold Ah; infer_instance
def mg (s x : S) : S := ⟨s.f0, mn s.f1 x.f1, mx s.f2 x.f2⟩
def add : List S → S → List S
  | [], s => [s]
  | x :: l, s => if Ah x s then x :: add l s else if Ah s x then s :: x :: l else add l (mg s x)
def In (x : S) (t p : Int) : Prop := x.f0 = t ∧ x.f1 ≤ p ∧ p < x.f2
instance (x : S) (t p : Int) : Decidable (In x t p) := by unfold In; infer_instance
def Has (l : List S) (t p : Int) : Prop := ∃ x ∈ l, In x t p
def size : List S → Int
  | [] => 0
  | x :: l => (x.f2 - x.f1) + size l
def over (x s : S) : Int := if x.f0 = s.f0 ∧ s.f1 < x.f2 ∧ x.f1 < s.f2 then mn x.f2 s.f2 - mx x.f1 s.f1 else 0
def Meets (l : List S) (s : S) : Prop := ∃ x ∈ l, x.f0 = s.f0 ∧ x.f1 < s.f2 ∧ s.f1 < x.f2
def Covers (l : List S) (s : S) : Prop := ∃ x ∈ l, x.f0 = s.f0 ∧ x.f1 ≤ s.f1 ∧ s.f2 ≤ x.f2
end Go.Proofs.Ytjlbgopgeepiaaa.LemSpanConf
set_option linter.unusedVariables false
namespace Go.Proofs.Ytjlbgopgeepiaaa.LemWithinConf
open Go.RowKit Go.Proofs.Ytjlbgopgeepiaaa.PConf Go.Proofs.YtjlbgopgeepiaaaW.PrintWords Go.Proofs.YtjlbgopgeepiaaaW.PrintLast Go.Proofs.YtjlbgopgeepiaaaW.PrintMore Go.Proofs.Ytjlbgopgeepiaaa.Num
theorem within_eq (x n : Int) (hn : 0 < n) (hn2 : n < 4611686018427387904) : busbarlaw0_Within.f x n = some (x % n) := by
  have h0 := Int.emod_nonneg x (show n ≠ 0 by omega)
  have h1 := Int.emod_lt_of_pos x hn
  have ht := Int.tmod_eq_emod (a := x) (b := n)
  have hna : (n.natAbs : Int) = n := by omega
  unfold busbarlaw0_Within.f
  rw [if_neg (by omega)]
  by_cases hc : 0 ≤ x ∨ n ∣ x
  · rw [if_pos hc] at ht
    rw [if_neg (by omega)]
    congr 1
    omega
  · rw [if_neg hc, hna] at ht
    have hne : x % n ≠ 0 := fun h => hc (.inr (Int.dvd_of_emod_eq_zero h))
    rw [if_pos (by omega), wrap64_id (by omega) (by omega)]
    congr 1
    omega
end Go.Proofs.Ytjlbgopgeepiaaa.LemWithinConf
set_option linter.unusedVariables false
set_option linter.unusedSimpArgs false
namespace Go.Proofs.Ytjlbgopgeepiaaa.LemCanonConf
open Go.RowKit Go.Proofs.Ytjlbgopgeepiaaa.PConf Go.Proofs.YtjlbgopgeepiaaaW.PrintWords Go.Proofs.YtjlbgopgeepiaaaW.PrintLast Go.Proofs.YtjlbgopgeepiaaaW.PrintMore Go.Proofs.Ytjlbgopgeepiaaa.Num Go.Proofs.Ytjlbgopgeepiaaa.LemSpanConf Go.Proofs.Ytjlbgopgeepiaaa.LemSpanFnConf
def rest (l : List S) : Nat → Nat → Bool
  | 0, _ => true
  | d + 1, i => decide (Rt (rd_T46 l (i : Int))) && (decide (i = 0) || decide (Ah (rd_T46 l ((i : Int) - 1)) (rd_T46 l (i : Int)))) && rest l d (i + 1)
end Go.Proofs.Ytjlbgopgeepiaaa.LemCanonConf
set_option linter.unusedVariables false
set_option linter.unusedSimpArgs false
namespace Go.Proofs.Ytjlbgopgeepiaaa.LemSpanFmConf
open Go.RowKit Go.Proofs.Ytjlbgopgeepiaaa.PConf Go.Proofs.YtjlbgopgeepiaaaW.PrintWords Go.Proofs.YtjlbgopgeepiaaaW.PrintLast Go.Proofs.YtjlbgopgeepiaaaW.PrintMore Go.Proofs.Ytjlbgopgeepiaaa.Num Go.Proofs.Ytjlbgopgeepiaaa.LemSpanConf Go.Proofs.Ytjlbgopgeepiaaa.LemWithinConf Go.Proofs.Ytjlbgopgeepiaaa.LemSpanFnConf
theorem digit_eq (n d m : Int) (hn : -9223372036854775808 ≤ n ∧ n < 9223372036854775808) (hd : 2 ≤ d) (hm : 0 < m) (hm2 : m < 4611686018427387904) : busbarlaw0_Digit.f n d m = some (Int.tdiv n d % m) := by
  unfold busbarlaw0_Digit.f
  have h : -9223372036854775808 ≤ Int.tdiv n d ∧ Int.tdiv n d < 9223372036854775808 := by
    have h3 : (Int.natAbs (Int.tdiv n d)) ≤ Int.natAbs n / 2 := by rw [Int.natAbs_tdiv]; exact Nat.div_le_div_left (by omega) (by omega)
    omega
  rw [if_neg (by omega), wrap64_id h.1 h.2, within_eq _ m hm hm2]
  rfl
end Go.Proofs.Ytjlbgopgeepiaaa.LemSpanFmConf
set_option linter.unusedVariables false
set_option linter.unusedSimpArgs false
namespace Go.Proofs.Ytjlbgopgeepiaaa.LemSpanFoConf
open Go.RowKit Go.Proofs.Ytjlbgopgeepiaaa.PConf Go.Proofs.YtjlbgopgeepiaaaW.PrintWords Go.Proofs.YtjlbgopgeepiaaaW.PrintLast Go.Proofs.YtjlbgopgeepiaaaW.PrintMore Go.Proofs.Ytjlbgopgeepiaaa.Num Go.Proofs.Ytjlbgopgeepiaaa.LemSpanConf Go.Proofs.Ytjlbgopgeepiaaa.LemWithinConf Go.Proofs.Ytjlbgopgeepiaaa.LemSpanFnConf Go.Proofs.Ytjlbgopgeepiaaa.LemSpanFmConf
instance (l : List S) (t p : Int) : Decidable (Has l t p) := by unfold Has; infer_instance
instance (l : List S) (s : S) : Decidable (Meets l s) := by unfold Meets; infer_instance
instance (l : List S) (s : S) : Decidable (Covers l s) := by unfold Covers; infer_instance
end Go.Proofs.Ytjlbgopgeepiaaa.LemSpanFoConf
set_option linter.unusedVariables false
set_option linter.unusedSimpArgs false
namespace Go.Proofs.Ytjlbgopgeepiaaa.LemCheckConf
open Go.RowKit Go.Proofs.Ytjlbgopgeepiaaa.PConf Go.Proofs.YtjlbgopgeepiaaaW.PrintWords Go.Proofs.YtjlbgopgeepiaaaW.PrintLast Go.Proofs.YtjlbgopgeepiaaaW.PrintMore Go.Proofs.Ytjlbgopgeepiaaa.Num Go.Proofs.Ytjlbgopgeepiaaa.LemSpanConf Go.Proofs.Ytjlbgopgeepiaaa.LemSpanFnConf Go.Proofs.Ytjlbgopgeepiaaa.LemSpanFmConf Go.Proofs.Ytjlbgopgeepiaaa.LemSpanFoConf Go.Proofs.Ytjlbgopgeepiaaa.LemSpanFqConf Go.Proofs.Ytjlbgopgeepiaaa.LemCanonConf
theorem rd_get (l : List S) (i : Nat) (h : i < l.length) : rd_T46 l (i : Int) = l[i] := by
  unfold rd_T46
  rw [Int.toNat_natCast, List.getD_eq_getElem?_getD, List.getElem?_eq_getElem h]
  rfl
end Go.Proofs.Ytjlbgopgeepiaaa.LemCheckConf
namespace Go.Proofs.Ytjlbgopgeepiaaa.PConf
open Go.RowKit Go.Proofs.YtjlbgopgeepiaaaW.PrintWords Go.Proofs.YtjlbgopgeepiaaaW.PrintLast Go.Proofs.YtjlbgopgeepiaaaW.PrintMore
attribute [local go_sem] max2_int min2_int max_two min_two max_three min_three max_four min_four plus_setCell_drewN plus_cell_same   -- for this text's walks alone
set_option linter.unusedVariables false
set_option linter.unusedSimpArgs false
mutual
def busbarlaw14_All.l0 : Nat → List Int → List (S48) → Int → Option ((List (S48)) × (List (S46)))
 | 0, _, _, _ => none
 | k + 1, x0, x4, x5 => if x5 < 4 then (busbarlaw14_All.l1 k x0 x4 x5 0 0) else (some (x4, (([(⟨2, 0, 65536⟩ : S46), (⟨3, 0, 65536⟩ : S46)] : List (S46)))))
def busbarlaw14_All.l1 : Nat → List Int → List (S48) → Int → Int → Int → Option ((List (S48)) × (List (S46)))
 | 0, _, _, _, _, _ => none
 | k + 1, x0, x4, x5, x6, x7 => if x7 < (x0.length : Int) then (busbarlaw14_All.j2 k x0 x4 x5 x6 x7 (decide (x7 < 12))) else (busbarlaw14_All.j2 k x0 x4 x5 x6 x7 false)
def busbarlaw14_All.j2 : Nat → List Int → List (S48) → Int → Int → Int → Bool → Option ((List (S48)) × (List (S46)))
 | 0, _, _, _, _, _, _ => none
 | k + 1, x0, x4, x5, x6, x7, x20 => if x20 = true then (if 0 ≤ x7 then (if x7 < (x0.length : Int) then ((busbarlaw0_Within.f (rd x0 x7) 2).bind fun t260 => (if t260 = (wrap64 (x5 - 2)) then ((busbarlaw0_Digit.f (rd x0 x7) 2 2).bind fun t262 => (if (wrap64 (2 + (wrap64 (2 * t262)))) = 0 then (none) else ((busbarlaw0_Digit.f (rd x0 x7) 4 3).bind fun t264 => (if x4.length < 5864062014805 then (busbarlaw14_All.l1 k x0 (x4 ++ [(⟨x5, wrap64 ((wrap64 ((wrap64 (Int.tdiv (wrap64 ((wrap64 (x6 + (wrap64 (2 + (wrap64 (2 * t262)))))) - 1)) (wrap64 (2 + (wrap64 (2 * t262)))))) * (wrap64 (2 + (wrap64 (2 * t262)))))) + (wrap64 ((wrap64 (2 + (wrap64 (2 * t262)))) * t264))), wrap64 (2 + (wrap64 (2 * t262)))⟩ : S48)]) x5 (wrap64 ((wrap64 ((wrap64 ((wrap64 (Int.tdiv (wrap64 ((wrap64 (x6 + (wrap64 (2 + (wrap64 (2 * t262)))))) - 1)) (wrap64 (2 + (wrap64 (2 * t262)))))) * (wrap64 (2 + (wrap64 (2 * t262)))))) + (wrap64 ((wrap64 (2 + (wrap64 (2 * t262)))) * t264)))) + (wrap64 (2 + (wrap64 (2 * t262)))))) (wrap64 (x7 + 1))) else (none))))) else (busbarlaw14_All.l1 k x0 x4 x5 x6 (wrap64 (x7 + 1))))) else (none)) else (none)) else (busbarlaw14_All.l0 k x0 x4 (wrap64 (x5 + 1)))
end
def busbarlaw14_All.f (k : Nat) (l0 : List Int) : Option ((List (S48)) × (List (S46))) := busbarlaw14_All.l0 k l0 ([] : List (S48)) 2
theorem busbarlaw14_All.mono_l : ∀ k, (∀ y0 y1 y2, LeO (busbarlaw14_All.l0 k y0 y1 y2) (busbarlaw14_All.l0 (k + 1) y0 y1 y2)) ∧ (∀ y0 y1 y2 y3 y4, LeO (busbarlaw14_All.l1 k y0 y1 y2 y3 y4) (busbarlaw14_All.l1 (k + 1) y0 y1 y2 y3 y4)) ∧ (∀ y0 y1 y2 y3 y4 y5, LeO (busbarlaw14_All.j2 k y0 y1 y2 y3 y4 y5) (busbarlaw14_All.j2 (k + 1) y0 y1 y2 y3 y4 y5))
 | 0 => ⟨fun _ _ _ r h => by simp [busbarlaw14_All.l0] at h, fun _ _ _ _ _ r h => by simp [busbarlaw14_All.l1] at h, fun _ _ _ _ _ _ r h => by simp [busbarlaw14_All.j2] at h⟩
 | k + 1 => by
  obtain ⟨ih0, ih1, ih2⟩ := busbarlaw14_All.mono_l k
  refine ⟨?_, ?_, ?_⟩
  ·
   intro y0 y1 y2
   unfold busbarlaw14_All.l0
   repeat' first
   | (with_reducible exact ih0 _ _ _)
   | (with_reducible exact ih1 _ _ _ _ _)
   | (with_reducible exact ih2 _ _ _ _ _ _)
   | (with_reducible exact LeO.refl _)
   | (with_reducible exact LeO.none _)
   | (with_reducible refine LeO.ite ?_ ?_)
   | (with_reducible refine LeO.bind ?_ (fun _ => ?_))
   | exact ih0 _ _ _
   | exact ih1 _ _ _ _ _
   | exact ih2 _ _ _ _ _ _
   | exact LeO.none _
   | refine LeO.ite ?_ ?_
   | refine LeO.bind ?_ (fun _ => ?_)
  ·
   intro y0 y1 y2 y3 y4
   unfold busbarlaw14_All.l1
   repeat' first
   | (with_reducible exact ih0 _ _ _)
   | (with_reducible exact ih1 _ _ _ _ _)
   | (with_reducible exact ih2 _ _ _ _ _ _)
   | (with_reducible exact LeO.refl _)
   | (with_reducible exact LeO.none _)
   | (with_reducible refine LeO.ite ?_ ?_)
   | (with_reducible refine LeO.bind ?_ (fun _ => ?_))
   | exact ih0 _ _ _
   | exact ih1 _ _ _ _ _
   | exact ih2 _ _ _ _ _ _
   | exact LeO.none _
   | refine LeO.ite ?_ ?_
   | refine LeO.bind ?_ (fun _ => ?_)
  ·
   intro y0 y1 y2 y3 y4 y5
   unfold busbarlaw14_All.j2
   repeat' first
   | (with_reducible exact ih0 _ _ _)
   | (with_reducible exact ih1 _ _ _ _ _)
   | (with_reducible exact ih2 _ _ _ _ _ _)
   | (with_reducible exact LeO.refl _)
   | (with_reducible exact LeO.none _)
   | (with_reducible refine LeO.ite ?_ ?_)
   | (with_reducible refine LeO.bind ?_ (fun _ => ?_))
   | exact ih0 _ _ _
   | exact ih1 _ _ _ _ _
   | exact ih2 _ _ _ _ _ _
   | exact LeO.none _
   | refine LeO.ite ?_ ?_
   | refine LeO.bind ?_ (fun _ => ?_)
theorem busbarlaw14_All.mono : ∀ a0 k, LeO (busbarlaw14_All.f k a0) (busbarlaw14_All.f (k + 1) a0) := by
 intro a0 k
 obtain ⟨ih0, ih1, ih2⟩ := busbarlaw14_All.mono_l k
 unfold busbarlaw14_All.f
 repeat' first
   | (with_reducible exact ih0 _ _ _)
   | (with_reducible exact ih1 _ _ _ _ _)
   | (with_reducible exact ih2 _ _ _ _ _ _)
   | (with_reducible exact LeO.refl _)
   | (with_reducible exact LeO.none _)
   | (with_reducible refine LeO.ite ?_ ?_)
   | (with_reducible refine LeO.bind ?_ (fun _ => ?_))
   | exact ih0 _ _ _
   | exact ih1 _ _ _ _ _
   | exact ih2 _ _ _ _ _ _
   | exact LeO.none _
   | refine LeO.ite ?_ ?_
   | refine LeO.bind ?_ (fun _ => ?_)
set_option maxHeartbeats 8000000 in
set_option maxRecDepth 100000 in
theorem busbarlaw14_All.calls (k : Nat) (A0 : Option Addr) (c0 : Nat) (l0 : List Int) (r1 : List (S48)) (r2 : List (S46)) (w : World) (hr0 : Kd.C (Kd.int .i64) w A0 l0.length l0) (hc0 : l0.length ≤ c0) (h : busbarlaw14_All.f k l0 = some (r1, r2)) :
  Calls Try.prog 15 #[.slice A0 l0.length c0] w fun e w' => ∃ v0_ v1_ : Value, e = .returned (.tuple #[v0_, v1_]) ∧ Kd.R k48 48 w' w.heap.size (fun _ => True) v0_ r1 ∧ Kd.R k46 46 w' w.heap.size (fun _ => True) v1_ r2 ∧ Below w.heap.size w w' := by
 have hu48 := Try.underlying48
 have hu46 := Try.underlying46
 have HR0 := Aside0.mk hr0
 have HC0 := Aside0.mk hc0
 clear hr0 hc0
 have HB := Aside0.mk (Below.refl w.heap.size w)
 have H : (busbarlaw14_All.l0 k l0 ([] : List (S48)) 2) = some (r1, r2) := h
 clear h
 have H' := Aside0.mk H
 clear H
 go_enter Try.func15, Try.ntmps15
 go_wp2
 go_loopg [4, 5] k (fun kq v4 v5 w' => ∃ (x4_1 : List (S48)) (x5_1 : Int), v5 = .int .i64 x5_1 ∧ Aside0 (busbarlaw14_All.l0 kq l0 x4_1 x5_1 = some (r1, r2)) ∧ Aside0 (kq ≤ k) ∧ Aside0 (Kd.R k48 48 w' w.heap.size (fun _ => True) v4 x4_1) ∧ Aside0 (Below w.heap.size w w'))
 case atStart => exact ⟨(([] : List (S48))), (2), (by first | rfl | (simp; done) | (simp [*]; done)), H', ⟨Nat.le_refl _⟩, ⟨by first | exact Kd.R_nil _ _ _ _ _ | exact Kd.N_nil _ _ _ _ _ | exact Kd.V_nil _ _ _ _ _ | exact Kd.Q_nil _ _ _ _ _ | exact Kd.S_nil _ _ _ _ _⟩, ⟨by repeat (first | (with_reducible first | exact HB.out | apply below_alloc | apply pw_below_drewN | apply below_drew1) | exact HB.out)⟩⟩
 case round =>
  clear H'
  try clear c1
  obtain ⟨x4_1, x5_1, rfl, HA, HK1, HO_4, HB⟩ := hrel
  cases gk with
  | zero => exact absurd HA.out (by simp [busbarlaw14_All.l0])
  | succ k1 =>
   have H := HA.out
   clear HA
   simp only [busbarlaw14_All.l0] at H
   by_cases c2 : x5_1 < 4
   ·
    rw [if_pos c2] at H
    have c2b0 : decide (x5_1 < 4) = true := decide_eq_true c2
    clear c2
    have H' := Aside0.mk H
    clear H
    go_wp2
    go_loopg [4, 6, 7] k1 (fun kq v4 v6 v7 w' => ∃ (x4_2 : List (S48)) (x6_2 : Int) (x7_2 : Int), v6 = .int .i64 x6_2 ∧ v7 = .int .i64 x7_2 ∧ Aside0 (busbarlaw14_All.l1 kq l0 x4_2 x5_1 x6_2 x7_2 = some (r1, r2)) ∧ Aside0 (kq ≤ k1) ∧ Aside0 (Kd.R k48 48 w' w.heap.size (fun _ => True) v4 x4_2) ∧ Aside0 (Below w.heap.size w w'))
    case atStart => exact ⟨(x4_1), (0), (0), (by first | rfl | (simp; done) | (simp [*]; done)), (by first | rfl | (simp; done) | (simp [*]; done)), H', ⟨Nat.le_refl _⟩, ⟨by (with_reducible repeat (first | apply Kd.R_alloc | apply Kd.R_drewN | apply Kd.R_drew)); exact HO_4.out⟩, ⟨by repeat (first | (with_reducible first | exact HB.out | apply below_alloc | apply pw_below_drewN | apply below_drew1) | exact HB.out)⟩⟩
    case round =>
     clear H'
     try clear c1
     try clear c2
     try clear c2b0
     try clear p2
     obtain ⟨x4_2, x6_2, x7_2, rfl, rfl, HA, HK2, HO_4, HB⟩ := hrel
     cases gk with
     | zero => exact absurd HA.out (by simp [busbarlaw14_All.l1])
     | succ k2 =>
      have H := HA.out
      clear HA
      simp only [busbarlaw14_All.l1] at H
      have HC3 := Aside0.mk H
      clear H
      go_upto_region 7 with (fail)
      go_cut [20] (fun v20 wc => ∃ (kq : Nat) (x20_2 : Bool), v20 = .bool x20_2 ∧ Aside0 (busbarlaw14_All.j2 kq l0 x4_2 x5_1 x6_2 x7_2 x20_2 = some (r1, r2)) ∧ Aside0 (kq ≤ k2) ∧ Aside0 (Kd.R k48 48 wc w.heap.size (fun _ => True) u4 x4_2) ∧ Aside0 (Below w.heap.size w wc))
      case first =>
       have H := HC3.out
       clear HC3
       by_cases c4 : x7_2 < (l0.length : Int)
       ·
        rw [if_pos c4] at H
        have c4b0 : decide (x7_2 < (l0.length : Int)) = true := decide_eq_true c4
        clear c4
        (first | rw [c4b0] | (simp only [i64_w, i32_w]; rw [c4b0]) | skip)
        have H' := Aside0.mk H
        clear H
        go_wp2
        go_meet
        case rel => exact ⟨_, (decide (x7_2 < 12)), (by first | rfl | (simp; done) | (simp [*]; done)), H', ⟨by have := HK1.out; have := HK2.out; first | omega | exact Nat.le_refl _⟩, ⟨by (with_reducible repeat (first | apply Kd.R_alloc | apply Kd.R_drewN | apply Kd.R_drew)); exact HO_4.out⟩, ⟨by repeat (first | (with_reducible first | exact HB.out | apply below_alloc | apply pw_below_drewN | apply below_drew1) | exact HB.out)⟩⟩
       ·
        rw [if_neg c4] at H
        have c4b0 : decide (x7_2 < (l0.length : Int)) = false := decide_eq_false c4
        clear c4
        (first | rw [c4b0] | (simp only [i64_w, i32_w]; rw [c4b0]) | skip)
        have H' := Aside0.mk H
        clear H
        go_wp2
        go_meet
        case rel => exact ⟨_, (false), (by first | rfl | (simp; done) | (simp [*]; done)), H', ⟨by have := HK1.out; have := HK2.out; first | omega | exact Nat.le_refl _⟩, ⟨by (with_reducible repeat (first | apply Kd.R_alloc | apply Kd.R_drewN | apply Kd.R_drew)); exact HO_4.out⟩, ⟨by repeat (first | (with_reducible first | exact HB.out | apply below_alloc | apply pw_below_drewN | apply below_drew1) | exact HB.out)⟩⟩
      case rest =>
       clear HC3
       try clear c1
       try clear c2
       try clear c2b0
       try clear p2
       try clear c4
       try clear c4b0
       try clear p2
       obtain ⟨kq, x20_2, rfl, HA, HJ2, HO_4, HB⟩ := hcut
       cases kq with
       | zero => exact absurd HA.out (by simp [busbarlaw14_All.j2])
       | succ kj2 =>
        have H := HA.out
        clear HA
        simp only [busbarlaw14_All.j2] at H
        by_cases c5 : x20_2 = true
        ·
         subst c5
         have H1 : (if 0 ≤ x7_2 then (if x7_2 < (l0.length : Int) then ((busbarlaw0_Within.f (rd l0 x7_2) 2).bind fun t260 => (if t260 = (wrap64 (x5_1 - 2)) then ((busbarlaw0_Digit.f (rd l0 x7_2) 2 2).bind fun t262 => (if (wrap64 (2 + (wrap64 (2 * t262)))) = 0 then (none) else ((busbarlaw0_Digit.f (rd l0 x7_2) 4 3).bind fun t264 => (if x4_2.length < 5864062014805 then (busbarlaw14_All.l1 kj2 l0 (x4_2 ++ [(⟨x5_1, wrap64 ((wrap64 ((wrap64 (Int.tdiv (wrap64 ((wrap64 (x6_2 + (wrap64 (2 + (wrap64 (2 * t262)))))) - 1)) (wrap64 (2 + (wrap64 (2 * t262)))))) * (wrap64 (2 + (wrap64 (2 * t262)))))) + (wrap64 ((wrap64 (2 + (wrap64 (2 * t262)))) * t264))), wrap64 (2 + (wrap64 (2 * t262)))⟩ : S48)]) x5_1 (wrap64 ((wrap64 ((wrap64 ((wrap64 (Int.tdiv (wrap64 ((wrap64 (x6_2 + (wrap64 (2 + (wrap64 (2 * t262)))))) - 1)) (wrap64 (2 + (wrap64 (2 * t262)))))) * (wrap64 (2 + (wrap64 (2 * t262)))))) + (wrap64 ((wrap64 (2 + (wrap64 (2 * t262)))) * t264)))) + (wrap64 (2 + (wrap64 (2 * t262)))))) (wrap64 (x7_2 + 1))) else (none))))) else (busbarlaw14_All.l1 kj2 l0 x4_2 x5_1 x6_2 (wrap64 (x7_2 + 1))))) else (none)) else (none)) = some (r1, r2) := by rw [if_pos rfl] at H; exact H
         clear H
         have H := H1
         clear H1
         by_cases c6 : 0 ≤ x7_2
         ·
          rw [if_pos c6] at H
          have c6b0 : decide (0 ≤ x7_2) = true := decide_eq_true c6
          clear c6
          by_cases c7 : x7_2 < (l0.length : Int)
          ·
           rw [if_pos c7] at H
           have c7b0 : decide (x7_2 < (l0.length : Int)) = true := decide_eq_true c7
           clear c7
           replace H := Option.bind_eq_some_iff.mp H
           obtain ⟨t260, A80, H⟩ := H
           replace H : (if t260 = (wrap64 (x5_1 - 2)) then ((busbarlaw0_Digit.f (rd l0 x7_2) 2 2).bind fun t262 => (if (wrap64 (2 + (wrap64 (2 * t262)))) = 0 then (none) else ((busbarlaw0_Digit.f (rd l0 x7_2) 4 3).bind fun t264 => (if x4_2.length < 5864062014805 then (busbarlaw14_All.l1 kj2 l0 (x4_2 ++ [(⟨x5_1, wrap64 ((wrap64 ((wrap64 (Int.tdiv (wrap64 ((wrap64 (x6_2 + (wrap64 (2 + (wrap64 (2 * t262)))))) - 1)) (wrap64 (2 + (wrap64 (2 * t262)))))) * (wrap64 (2 + (wrap64 (2 * t262)))))) + (wrap64 ((wrap64 (2 + (wrap64 (2 * t262)))) * t264))), wrap64 (2 + (wrap64 (2 * t262)))⟩ : S48)]) x5_1 (wrap64 ((wrap64 ((wrap64 ((wrap64 (Int.tdiv (wrap64 ((wrap64 (x6_2 + (wrap64 (2 + (wrap64 (2 * t262)))))) - 1)) (wrap64 (2 + (wrap64 (2 * t262)))))) * (wrap64 (2 + (wrap64 (2 * t262)))))) + (wrap64 ((wrap64 (2 + (wrap64 (2 * t262)))) * t264)))) + (wrap64 (2 + (wrap64 (2 * t262)))))) (wrap64 (x7_2 + 1))) else (none))))) else (busbarlaw14_All.l1 kj2 l0 x4_2 x5_1 x6_2 (wrap64 (x7_2 + 1)))) = some (r1, r2) := H
           have A8 := Aside0.mk A80
           clear A80
           by_cases c9 : t260 = (wrap64 (x5_1 - 2))
           ·
            rw [if_pos c9] at H
            have c9b0 : (t260 == (wrap64 (x5_1 - 2))) = true := beq_iff_eq.mpr c9
            have c9b1 : (t260 != (wrap64 (x5_1 - 2))) = false := bne_eq_false_iff_eq.mpr c9
            clear c9
            replace H := Option.bind_eq_some_iff.mp H
            obtain ⟨t262, A100, H⟩ := H
            replace H : (if (wrap64 (2 + (wrap64 (2 * t262)))) = 0 then (none) else ((busbarlaw0_Digit.f (rd l0 x7_2) 4 3).bind fun t264 => (if x4_2.length < 5864062014805 then (busbarlaw14_All.l1 kj2 l0 (x4_2 ++ [(⟨x5_1, wrap64 ((wrap64 ((wrap64 (Int.tdiv (wrap64 ((wrap64 (x6_2 + (wrap64 (2 + (wrap64 (2 * t262)))))) - 1)) (wrap64 (2 + (wrap64 (2 * t262)))))) * (wrap64 (2 + (wrap64 (2 * t262)))))) + (wrap64 ((wrap64 (2 + (wrap64 (2 * t262)))) * t264))), wrap64 (2 + (wrap64 (2 * t262)))⟩ : S48)]) x5_1 (wrap64 ((wrap64 ((wrap64 ((wrap64 (Int.tdiv (wrap64 ((wrap64 (x6_2 + (wrap64 (2 + (wrap64 (2 * t262)))))) - 1)) (wrap64 (2 + (wrap64 (2 * t262)))))) * (wrap64 (2 + (wrap64 (2 * t262)))))) + (wrap64 ((wrap64 (2 + (wrap64 (2 * t262)))) * t264)))) + (wrap64 (2 + (wrap64 (2 * t262)))))) (wrap64 (x7_2 + 1))) else (none)))) = some (r1, r2) := H
            have A10 := Aside0.mk A100
            clear A100
            by_cases c11 : (wrap64 (2 + (wrap64 (2 * t262)))) = 0
            ·
             rw [if_pos c11] at H
             exact absurd H (by simp)
            ·
             rw [if_neg c11] at H
             have c11b0 : ((wrap64 (2 + (wrap64 (2 * t262)))) == 0) = false := beq_eq_false_iff_ne.mpr c11
             have c11b1 : ((wrap64 (2 + (wrap64 (2 * t262)))) != 0) = true := bne_iff_ne.mpr c11
             replace H := Option.bind_eq_some_iff.mp H
             obtain ⟨t264, A120, H⟩ := H
             replace H : (if x4_2.length < 5864062014805 then (busbarlaw14_All.l1 kj2 l0 (x4_2 ++ [(⟨x5_1, wrap64 ((wrap64 ((wrap64 (Int.tdiv (wrap64 ((wrap64 (x6_2 + (wrap64 (2 + (wrap64 (2 * t262)))))) - 1)) (wrap64 (2 + (wrap64 (2 * t262)))))) * (wrap64 (2 + (wrap64 (2 * t262)))))) + (wrap64 ((wrap64 (2 + (wrap64 (2 * t262)))) * t264))), wrap64 (2 + (wrap64 (2 * t262)))⟩ : S48)]) x5_1 (wrap64 ((wrap64 ((wrap64 ((wrap64 (Int.tdiv (wrap64 ((wrap64 (x6_2 + (wrap64 (2 + (wrap64 (2 * t262)))))) - 1)) (wrap64 (2 + (wrap64 (2 * t262)))))) * (wrap64 (2 + (wrap64 (2 * t262)))))) + (wrap64 ((wrap64 (2 + (wrap64 (2 * t262)))) * t264)))) + (wrap64 (2 + (wrap64 (2 * t262)))))) (wrap64 (x7_2 + 1))) else (none)) = some (r1, r2) := H
             have A12 := Aside0.mk A120
             clear A120
             by_cases c13 : x4_2.length < 5864062014805
             ·
              rw [if_pos c13] at H
              have LMc13 := Aside0.mk c13
              clear c13
              obtain ⟨y265, hy265⟩ : ∃ y_ : List (S48), y_ = (x4_2 ++ [(⟨x5_1, wrap64 ((wrap64 ((wrap64 (Int.tdiv (wrap64 ((wrap64 (x6_2 + (wrap64 (2 + (wrap64 (2 * t262)))))) - 1)) (wrap64 (2 + (wrap64 (2 * t262)))))) * (wrap64 (2 + (wrap64 (2 * t262)))))) + (wrap64 ((wrap64 (2 + (wrap64 (2 * t262)))) * t264))), wrap64 (2 + (wrap64 (2 * t262)))⟩ : S48)]) := ⟨_, rfl⟩
              replace H : (busbarlaw14_All.l1 kj2 l0 y265 x5_1 (wrap64 ((wrap64 ((wrap64 ((wrap64 (Int.tdiv (wrap64 ((wrap64 (x6_2 + (wrap64 (2 + (wrap64 (2 * t262)))))) - 1)) (wrap64 (2 + (wrap64 (2 * t262)))))) * (wrap64 (2 + (wrap64 (2 * t262)))))) + (wrap64 ((wrap64 (2 + (wrap64 (2 * t262)))) * t264)))) + (wrap64 (2 + (wrap64 (2 * t262)))))) (wrap64 (x7_2 + 1))) = some (r1, r2) := by first | (rw [hy265]; with_reducible exact H) | (have H2_ := (Option.bind_some _ _).symm.trans H; rw [hy265]; with_reducible exact H2_) | (have H2_ := (Option.bind_some _ _).symm.trans H; with_reducible exact H2_) | with_reducible exact H | (rw [hy265]; exact H) | exact H
              have Ny265 := Aside0.mk hy265
              clear hy265
              have H' := Aside0.mk H
              clear H
              have p259 : 0 ≤ (x7_2 : Int) := of_decide_eq_true (by first | (with_reducible assumption) | assumption)
              have q259 : x7_2 < (l0.length : Int) := of_decide_eq_true (by first | (with_reducible assumption) | assumption)
              obtain ⟨ad259, e259, hx259_0⟩ := Kd.at_int HR0.out x7_2 p259 q259
              cases e259
              replace hx259_0 := (HB.out.cell (World.block_lt_of_cell? w _ hx259_0)).trans hx259_0
              replace p259 := eq_true p259
              replace q259 := eq_true q259
              go_wp2_with (first | ((with_reducible refine gate_callee (f := 12) rfl ?_); refine goesL_ (some 27) rfl rfl Try.func12 (by kernel_rfl) rfl #[.int .i64 (rd l0 x7_2), .int .i64 2] rfl (by (try simp only [List.map_toArray, List.map_cons, List.map_nil]); first | done | rfl | (simp only [List.length_drop, List.length_take]; rfl)) ?_; (with_reducible refine (busbarlaw0_Within.calls (rd l0 x7_2) 2 t260 _ A8.out).mono ?_); rintro e w' ⟨rfl, ⟨nd, rfl⟩⟩; refine ⟨_, rfl, ?_⟩; have p261 : 0 ≤ (x7_2 : Int) := of_decide_eq_true (by first | (with_reducible assumption) | assumption); have q261 : x7_2 < (l0.length : Int) := of_decide_eq_true (by first | (with_reducible assumption) | assumption); obtain ⟨ad261, e261, hx261_0⟩ := Kd.at_int HR0.out x7_2 p261 q261; obtain rfl : ad259 = ad261 := (by injection e261); replace hx261_0 := (HB.out.cell (World.block_lt_of_cell? w _ hx261_0)).trans hx261_0; replace p261 := eq_true p261; replace q261 := eq_true q261) | ((with_reducible refine gate_callee (f := 27) rfl ?_); refine goesL_ (some 35) rfl rfl Try.func27 (by kernel_rfl) rfl #[.int .i64 (rd l0 x7_2), .int .i64 2, .int .i64 2] rfl (by (try simp only [List.map_toArray, List.map_cons, List.map_nil]); first | done | rfl | (simp only [List.length_drop, List.length_take]; rfl)) ?_; (with_reducible refine (busbarlaw0_Digit.calls (rd l0 x7_2) 2 2 t262 _ A10.out).mono ?_); rintro e w' ⟨rfl, ⟨nd, rfl⟩⟩; refine ⟨_, rfl, ?_⟩; have p263 : 0 ≤ (x7_2 : Int) := of_decide_eq_true (by first | (with_reducible assumption) | assumption); have q263 : x7_2 < (l0.length : Int) := of_decide_eq_true (by first | (with_reducible assumption) | assumption); obtain ⟨ad263, e263, hx263_0⟩ := Kd.at_int HR0.out x7_2 p263 q263; obtain rfl : ad259 = ad263 := (by injection e263); replace hx263_0 := (HB.out.cell (World.block_lt_of_cell? w _ hx263_0)).trans hx263_0; replace p263 := eq_true p263; replace q263 := eq_true q263) | ((with_reducible refine gate_callee (f := 27) rfl ?_); refine goesL_ (some 52) rfl rfl Try.func27 (by kernel_rfl) rfl #[.int .i64 (rd l0 x7_2), .int .i64 4, .int .i64 3] rfl (by (try simp only [List.map_toArray, List.map_cons, List.map_nil]); first | done | rfl | (simp only [List.length_drop, List.length_take]; rfl)) ?_; (with_reducible refine (busbarlaw0_Digit.calls (rd l0 x7_2) 4 3 t264 _ A12.out).mono ?_); rintro e w' ⟨rfl, ⟨nd, rfl⟩⟩; refine ⟨_, rfl, ?_⟩) | ((with_reducible refine gate_builtin (b := .append) (xs := #[.tmp 55, .tmp 60]) rfl ?_); at_builtin; refine Kd.R_append k48 (w0 := w) w.heap.size rfl (.tmp 55) (.tmp 60) 23 48 (.agg #[(.int .i64 0), (.int .i64 0), (.int .i64 0)]) 24 rfl Try.underlying23 info48 rfl (by decide) (by omega) u4 x4_2 (⟨x5_1, wrap64 ((wrap64 ((wrap64 (Int.tdiv (wrap64 ((wrap64 (x6_2 + (wrap64 (2 + (wrap64 (2 * t262)))))) - 1)) (wrap64 (2 + (wrap64 (2 * t262)))))) * (wrap64 (2 + (wrap64 (2 * t262)))))) + (wrap64 ((wrap64 (2 + (wrap64 (2 * t262)))) * t264))), wrap64 (2 + (wrap64 (2 * t262)))⟩ : S48) [.int .i64 x5_1, .int .i64 (wrap64 ((wrap64 ((wrap64 (Int.tdiv (wrap64 ((wrap64 (x6_2 + (wrap64 (2 + (wrap64 (2 * t262)))))) - 1)) (wrap64 (2 + (wrap64 (2 * t262)))))) * (wrap64 (2 + (wrap64 (2 * t262)))))) + (wrap64 ((wrap64 (2 + (wrap64 (2 * t262)))) * t264)))), .int .i64 (wrap64 (2 + (wrap64 (2 * t262))))] (fun _ => True) (fun _ => False) rfl rfl ?aP (fun _ hk => hk.elim) ?aF ?aO ?aB ?aS ?aL ?_; (case aP => exact k48_mkM _ _ _ (⟨x5_1, wrap64 ((wrap64 ((wrap64 (Int.tdiv (wrap64 ((wrap64 (x6_2 + (wrap64 (2 + (wrap64 (2 * t262)))))) - 1)) (wrap64 (2 + (wrap64 (2 * t262)))))) * (wrap64 (2 + (wrap64 (2 * t262)))))) + (wrap64 ((wrap64 (2 + (wrap64 (2 * t262)))) * t264))), wrap64 (2 + (wrap64 (2 * t262)))⟩ : S48)); (case aB => exact (by repeat (first | (with_reducible first | exact HB.out | apply below_alloc | apply pw_below_drewN | apply below_drew1) | exact HB.out))); (case aF => exact (fun _ _ => trivial)); (case aO => exact (by (with_reducible repeat (first | apply Kd.R_alloc | apply Kd.R_drewN | apply Kd.R_drew)); exact HO_4.out)); (case aS => exact (below_size (by repeat (first | (with_reducible first | exact HB.out | apply below_alloc | apply pw_below_drewN | apply below_drew1) | exact HB.out)))); (case aL => have := LMc13.out; omega); intro v266 w14 ho hb hg hat; rw [← Ny265.out] at ho; have n0_ := Aside0.mk (hb); have n1_ := Aside0.mk (ho); clear HB; clear HO_4; have HB := n0_; have HO267 := n1_; clear n0_ n1_; clear ho hb hg hat))
              go_roundg kj2
              case measure => have := HK1.out; have := HK2.out; have := HJ2.out; omega
              case rel => exact ⟨(y265), (wrap64 ((wrap64 ((wrap64 ((wrap64 (Int.tdiv (wrap64 ((wrap64 (x6_2 + (wrap64 (2 + (wrap64 (2 * t262)))))) - 1)) (wrap64 (2 + (wrap64 (2 * t262)))))) * (wrap64 (2 + (wrap64 (2 * t262)))))) + (wrap64 ((wrap64 (2 + (wrap64 (2 * t262)))) * t264)))) + (wrap64 (2 + (wrap64 (2 * t262)))))), (wrap64 (x7_2 + 1)), (by first | rfl | (simp; done) | (simp [*]; done)), (by first | rfl | (simp; done) | (simp [*]; done)), H', ⟨by have := HK1.out; have := HK2.out; have := HJ2.out; omega⟩, ⟨by (with_reducible repeat (first | apply Kd.R_alloc | apply Kd.R_drewN | apply Kd.R_drew)); exact HO267.out⟩, ⟨by repeat (first | (with_reducible first | exact HB.out | apply below_alloc | apply pw_below_drewN | apply below_drew1) | exact HB.out)⟩⟩
             ·
              rw [if_neg c13] at H
              exact absurd H (by simp)
           ·
            rw [if_neg c9] at H
            have c9b0 : (t260 == (wrap64 (x5_1 - 2))) = false := beq_eq_false_iff_ne.mpr c9
            have c9b1 : (t260 != (wrap64 (x5_1 - 2))) = true := bne_iff_ne.mpr c9
            have H' := Aside0.mk H
            clear H
            have p259 : 0 ≤ (x7_2 : Int) := of_decide_eq_true (by first | (with_reducible assumption) | assumption)
            have q259 : x7_2 < (l0.length : Int) := of_decide_eq_true (by first | (with_reducible assumption) | assumption)
            obtain ⟨ad259, e259, hx259_0⟩ := Kd.at_int HR0.out x7_2 p259 q259
            cases e259
            replace hx259_0 := (HB.out.cell (World.block_lt_of_cell? w _ hx259_0)).trans hx259_0
            replace p259 := eq_true p259
            replace q259 := eq_true q259
            go_wp2_with (first | ((with_reducible refine gate_callee (f := 12) rfl ?_); refine goesL_ (some 27) rfl rfl Try.func12 (by kernel_rfl) rfl #[.int .i64 (rd l0 x7_2), .int .i64 2] rfl (by (try simp only [List.map_toArray, List.map_cons, List.map_nil]); first | done | rfl | (simp only [List.length_drop, List.length_take]; rfl)) ?_; (with_reducible refine (busbarlaw0_Within.calls (rd l0 x7_2) 2 t260 _ A8.out).mono ?_); rintro e w' ⟨rfl, ⟨nd, rfl⟩⟩; refine ⟨_, rfl, ?_⟩))
            go_roundg kj2
            case measure => have := HK1.out; have := HK2.out; have := HJ2.out; omega
            case rel => exact ⟨(x4_2), (x6_2), (wrap64 (x7_2 + 1)), (by first | rfl | (simp; done) | (simp [*]; done)), (by first | rfl | (simp; done) | (simp [*]; done)), H', ⟨by have := HK1.out; have := HK2.out; have := HJ2.out; omega⟩, ⟨by (with_reducible repeat (first | apply Kd.R_alloc | apply Kd.R_drewN | apply Kd.R_drew)); exact HO_4.out⟩, ⟨by repeat (first | (with_reducible first | exact HB.out | apply below_alloc | apply pw_below_drewN | apply below_drew1) | exact HB.out)⟩⟩
          ·
           rw [if_neg c7] at H
           exact absurd H (by simp)
         ·
          rw [if_neg c6] at H
          exact absurd H (by simp)
        ·
         replace c5 := Bool.eq_false_iff.mpr c5
         subst c5
         have H1 : (busbarlaw14_All.l0 kj2 l0 x4_2 (wrap64 (x5_1 + 1))) = some (r1, r2) := by rw [if_neg (show ¬ (false = true) by decide)] at H; exact H
         clear H
         have H := H1
         clear H1
         have H' := Aside0.mk H
         clear H
         go_wp2
         go_roundg kj2
         case measure => have := HK1.out; have := HK2.out; have := HJ2.out; omega
         case rel => exact ⟨(x4_2), (wrap64 (x5_1 + 1)), (by first | rfl | (simp; done) | (simp [*]; done)), H', ⟨by have := HK1.out; have := HK2.out; have := HJ2.out; omega⟩, ⟨by (with_reducible repeat (first | apply Kd.R_alloc | apply Kd.R_drewN | apply Kd.R_drew)); exact HO_4.out⟩, ⟨by repeat (first | (with_reducible first | exact HB.out | apply below_alloc | apply pw_below_drewN | apply below_drew1) | exact HB.out)⟩⟩
   ·
    rw [if_neg c2] at H
    have c2b0 : decide (x5_1 < 4) = false := decide_eq_false c2
    clear c2
    obtain ⟨y256, hy256⟩ : ∃ y_ : List (S46), y_ = (([(⟨2, 0, 65536⟩ : S46), (⟨3, 0, 65536⟩ : S46)] : List (S46))) := ⟨_, rfl⟩
    replace H : (some (x4_1, y256)) = some (r1, r2) := by first | (rw [hy256]; with_reducible exact H) | (have H2_ := (Option.bind_some _ _).symm.trans H; rw [hy256]; with_reducible exact H2_) | (have H2_ := (Option.bind_some _ _).symm.trans H; with_reducible exact H2_) | with_reducible exact H | (rw [hy256]; exact H) | exact H
    have Ny256 := Aside0.mk hy256
    clear hy256
    simp only [Option.some.injEq, Prod.mk.injEq] at H
    obtain ⟨rfl, rfl⟩ := H
    go_wp2_with (first | ((with_reducible refine gate_dst (N := 68) rfl ?_); refine Kd.R_lit k46 _ 46 ?hg (N := 68) ?hd (xs := ([(⟨2, 0, 65536⟩ : S46), (⟨3, 0, 65536⟩ : S46)] : List (S46))) (inner := [.int .i64 2, .int .i64 0, .int .i64 65536, .int .i64 3, .int .i64 0, .int .i64 65536]) (ok := fun _ => True) (okp := fun _ => True) ?hr ?hp (fun _ hk => hk) trivial (Below.refl _ _) (Nat.le_refl _) (by simp) ?_; (case hd => rfl); (case hg => rfl); (case hr => first | (go_simp; done) | (go_simp; rfl)); (case hp => exact (Reps.c3 (show Kd.M k46 _ _ _ (⟨2, 0, 65536⟩ : S46) [.int .i64 2, .int .i64 0, .int .i64 65536] from (k46_mkM _ _ _ (⟨2, 0, 65536⟩ : S46) )) (Reps.c3 (show Kd.M k46 _ _ _ (⟨3, 0, 65536⟩ : S46) [.int .i64 3, .int .i64 0, .int .i64 65536] from (k46_mkM _ _ _ (⟨3, 0, 65536⟩ : S46) )) (Reps.none _ _)))); intro v257 w15 ho16 hb hg_ hnew_; clear hg_ hnew_; (first | rw [← Ny256.out] at ho16 | (simp only [Int.reduceToNat] at ho16; rw [← Ny256.out] at ho16)); have n0_ := Aside0.mk (Kd.R_below (by (with_reducible repeat (first | apply Kd.R_alloc | apply Kd.R_drewN | apply Kd.R_drew)); exact HO_4.out) hb); have n1_ := Aside0.mk (Kd.R_lower ho16 (below_size (by repeat (first | (with_reducible first | exact HB.out | apply below_alloc | apply pw_below_drewN | apply below_drew1) | exact HB.out)))); have n2_ := Aside0.mk (below_step (by repeat (first | (with_reducible first | exact HB.out | apply below_alloc | apply pw_below_drewN | apply below_drew1) | exact HB.out)) hb); clear HO_4; clear HB; have HO_4 := n0_; have HO258 := n1_; have HB := n2_; clear n0_ n1_ n2_; clear hb ho16))
    go_ret2
    exact ⟨_, _, by first | rfl | (simp [errW_none, errW_some] <;> rfl) | (simp [*, errW_none, errW_some] <;> rfl), by (with_reducible repeat (first | apply Kd.R_alloc | apply Kd.R_drewN | apply Kd.R_drew)); exact HO_4.out, by (with_reducible repeat (first | apply Kd.R_alloc | apply Kd.R_drewN | apply Kd.R_drew)); exact HO258.out, by repeat (first | (with_reducible first | exact HB.out | apply below_alloc | apply pw_below_drewN | apply below_drew1) | exact HB.out)⟩
end Go.Proofs.Ytjlbgopgeepiaaa.PConf
set_option linter.unusedVariables false
namespace Go.Proofs.Ytjlbgopgeepiaaa.LemDigitConf
open Go.RowKit Go.Proofs.Ytjlbgopgeepiaaa.PConf Go.Proofs.YtjlbgopgeepiaaaW.PrintWords Go.Proofs.YtjlbgopgeepiaaaW.PrintLast Go.Proofs.YtjlbgopgeepiaaaW.PrintMore Go.Proofs.Ytjlbgopgeepiaaa.Num Go.Proofs.Ytjlbgopgeepiaaa.LemWithinConf
theorem digit_eq (n d m : Int) (hn : -9223372036854775808 ≤ n ∧ n < 9223372036854775808) (hd : 2 ≤ d) (hm : 0 < m) (hm2 : m < 4611686018427387904) : busbarlaw0_Digit.f n d m = some (Int.tdiv n d % m) := by
  unfold busbarlaw0_Digit.f
  have h : -9223372036854775808 ≤ Int.tdiv n d ∧ Int.tdiv n d < 9223372036854775808 := by
    have h3 : (Int.natAbs (Int.tdiv n d)) ≤ Int.natAbs n / 2 := by rw [Int.natAbs_tdiv]; exact Nat.div_le_div_left (by omega) (by omega)
    omega
  rw [if_neg (by omega), wrap64_id h.1 h.2, within_eq _ m hm hm2]
  rfl
end Go.Proofs.Ytjlbgopgeepiaaa.LemDigitConf
set_option linter.unusedVariables false
set_option linter.unusedSimpArgs false
namespace Go.Proofs.Ytjlbgopgeepiaaa.LemGroupConf
open Go.RowKit Go.Proofs.Ytjlbgopgeepiaaa.PConf Go.Proofs.YtjlbgopgeepiaaaW.PrintWords Go.Proofs.YtjlbgopgeepiaaaW.PrintLast Go.Proofs.YtjlbgopgeepiaaaW.PrintMore Go.Proofs.Ytjlbgopgeepiaaa.Num Go.Proofs.Ytjlbgopgeepiaaa.LemWithinConf Go.Proofs.Ytjlbgopgeepiaaa.LemDigitConf
abbrev Gr := S48
def Gok (g : Gr) : Prop := (g.f0 = 2 ∨ g.f0 = 3) ∧ (g.f2 = 2 ∨ g.f2 = 4) ∧ 0 ≤ g.f1 ∧ g.f1 % g.f2 = 0 ∧ g.f1 + g.f2 ≤ 1000
def Gah (a b : Gr) : Prop := a.f0 < b.f0 ∨ (a.f0 = b.f0 ∧ a.f1 + a.f2 ≤ b.f1)
def Gs (l : List Gr) : Prop := (∀ g ∈ l, Gok g) ∧ l.Pairwise Gah
def Spl (g : Gr) (t a b : Int) : Prop := g.f0 = t ∧ a < b ∧ g.f1 < b ∧ a < g.f1 + g.f2 ∧ (g.f1 < a ∨ b < g.f1 + g.f2)
instance (g : Gr) (t a b : Int) : Decidable (Spl g t a b) := by unfold Spl; infer_instance
def nat_ (at_ n : Int) : Int := (at_ + (2 + 2 * (Int.tdiv n 2 % 2)) - 1) / (2 + 2 * (Int.tdiv n 2 % 2)) * (2 + 2 * (Int.tdiv n 2 % 2)) + (2 + 2 * (Int.tdiv n 2 % 2)) * (Int.tdiv n 4 % 3)
theorem nat_bounds (at_ n : Int) (h0 : 0 ≤ at_) : at_ ≤ nat_ at_ n ∧ nat_ at_ n ≤ at_ + 11 ∧ nat_ at_ n % (2 + 2 * (Int.tdiv n 2 % 2)) = 0 ∧ (Int.tdiv n 2 % 2 = 0 ∨ Int.tdiv n 2 % 2 = 1) ∧ 0 ≤ Int.tdiv n 4 % 3 ∧ Int.tdiv n 4 % 3 < 3 := by
  have e1 := Int.emod_nonneg (Int.tdiv n 2) (show (2 : Int) ≠ 0 by omega)
  have e2 := Int.emod_lt_of_pos (Int.tdiv n 2) (show (0 : Int) < 2 by omega)
  have e3 := Int.emod_nonneg (Int.tdiv n 4) (show (3 : Int) ≠ 0 by omega)
  have e4 := Int.emod_lt_of_pos (Int.tdiv n 4) (show (0 : Int) < 3 by omega)
  unfold nat_
  generalize Int.tdiv n 2 % 2 = d at *
  generalize Int.tdiv n 4 % 3 = e at *
  obtain rfl | rfl : d = 0 ∨ d = 1 := by omega
  · obtain rfl | rfl | rfl : e = 0 ∨ e = 1 ∨ e = 2 := by omega
    all_goals refine ⟨?_, ?_, ?_, ?_, ?_, ?_⟩ <;> omega
  · obtain rfl | rfl | rfl : e = 0 ∨ e = 1 ∨ e = 2 := by omega
    all_goals refine ⟨?_, ?_, ?_, ?_, ?_, ?_⟩ <;> omega
def gat (t at_ n : Int) : Gr := ⟨t, nat_ at_ n, 2 + 2 * (Int.tdiv n 2 % 2)⟩
theorem all_step (ks : List Int) (hk : ∀ x ∈ ks, -9223372036854775808 ≤ x ∧ x < 9223372036854775808) (l : List Gr) (t at_ : Int) (i k : Nat) (hi : i < ks.length) (hi2 : i < 12) (ht : t = 2 ∨ t = 3) (h0 : 0 ≤ at_) (h1 : at_ ≤ 1000) (hl : l.length ≤ 1000) :
    busbarlaw14_All.l1 (k + 2) ks l t at_ (i : Int) = if ks[i] % 2 = t - 2 then busbarlaw14_All.l1 k ks (l ++ [gat t at_ ks[i]]) t (nat_ at_ ks[i] + (2 + 2 * (Int.tdiv ks[i] 2 % 2))) ((i + 1 : Nat) : Int) else busbarlaw14_All.l1 k ks l t at_ ((i + 1 : Nat) : Int) := by
  have hx := hk ks[i] (List.getElem_mem _)
  have hb := nat_bounds at_ ks[i] h0
  have hd := hb.2.2.2
  have hw1 : wrap64 ((i : Int) + 1) = ((i + 1 : Nat) : Int) := by rw [wrap64_id (by omega) (by omega)]; omega
  rw [busbarlaw14_All.l1, if_pos (by omega), decide_eq_true (by omega), busbarlaw14_All.j2, if_pos rfl, if_pos (by omega), if_pos (by omega), rd_get ks i hi, within_eq _ 2 (by omega) (by omega), Option.bind_some, wrap64_id (x := t - 2) (by omega) (by omega), hw1]
  by_cases h2 : ks[i] % 2 = t - 2
  · rw [if_pos h2, if_pos h2, digit_eq _ 2 2 hx (by omega) (by omega) (by omega), Option.bind_some]
    unfold gat
    have hn1 : 0 ≤ nat_ at_ ks[i] ∧ nat_ at_ ks[i] ≤ 1011 := by omega
    have hn := hn1
    unfold nat_ at hn ⊢
    revert hd hn
    generalize Int.tdiv ks[i] 2 % 2 = d
    rw [digit_eq _ 4 3 hx (by omega) (by omega) (by omega)]
    generalize Int.tdiv ks[i] 4 % 3 = e
    intro hd hn
    have w1 : wrap64 (2 * d) = 2 * d := wrap64_id (by omega) (by omega)
    have w2 : wrap64 (2 + 2 * d) = 2 + 2 * d := wrap64_id (by omega) (by omega)
    have w3 : wrap64 (at_ + (2 + 2 * d)) = at_ + (2 + 2 * d) := wrap64_id (by omega) (by omega)
    have w4 : wrap64 (at_ + (2 + 2 * d) - 1) = at_ + (2 + 2 * d) - 1 := wrap64_id (by omega) (by omega)
    have w5 : Int.tdiv (at_ + (2 + 2 * d) - 1) (2 + 2 * d) = (at_ + (2 + 2 * d) - 1) / (2 + 2 * d) := Int.tdiv_eq_ediv_of_nonneg (by omega)
    have w6 : 0 ≤ (at_ + (2 + 2 * d) - 1) / (2 + 2 * d) ∧ (at_ + (2 + 2 * d) - 1) / (2 + 2 * d) ≤ 1003 := by
      rcases hd.1 with rfl | rfl <;> omega
    have w7 : wrap64 ((at_ + (2 + 2 * d) - 1) / (2 + 2 * d)) = (at_ + (2 + 2 * d) - 1) / (2 + 2 * d) := wrap64_id (by omega) (by omega)
    have w8 : 0 ≤ (at_ + (2 + 2 * d) - 1) / (2 + 2 * d) * (2 + 2 * d) ∧ (at_ + (2 + 2 * d) - 1) / (2 + 2 * d) * (2 + 2 * d) ≤ 5000 := by
      rcases hd.1 with rfl | rfl <;> omega
    have w9 : wrap64 ((at_ + (2 + 2 * d) - 1) / (2 + 2 * d) * (2 + 2 * d)) = (at_ + (2 + 2 * d) - 1) / (2 + 2 * d) * (2 + 2 * d) := wrap64_id (by omega) (by omega)
    have w10 : 0 ≤ (2 + 2 * d) * e ∧ (2 + 2 * d) * e ≤ 8 := by
      rcases hd.1 with rfl | rfl <;> omega
    have w11 : wrap64 ((2 + 2 * d) * e) = (2 + 2 * d) * e := wrap64_id (by omega) (by omega)
    have w12 : wrap64 ((at_ + (2 + 2 * d) - 1) / (2 + 2 * d) * (2 + 2 * d) + (2 + 2 * d) * e) = (at_ + (2 + 2 * d) - 1) / (2 + 2 * d) * (2 + 2 * d) + (2 + 2 * d) * e := wrap64_id (by omega) (by omega)
    have w13 : wrap64 ((at_ + (2 + 2 * d) - 1) / (2 + 2 * d) * (2 + 2 * d) + (2 + 2 * d) * e + (2 + 2 * d)) = (at_ + (2 + 2 * d) - 1) / (2 + 2 * d) * (2 + 2 * d) + (2 + 2 * d) * e + (2 + 2 * d) := wrap64_id (by omega) (by omega)
    rw [w1, w2, if_neg (by omega), Option.bind_some, if_pos (by omega), w3, w4, w5, w7, w9, w11, w12, w13]
  · rw [if_neg h2, if_neg h2]
def Inv (l : List Gr) (t at_ : Int) : Prop := Gs l ∧ ∀ g ∈ l, g.f0 < t ∨ (g.f0 = t ∧ g.f1 + g.f2 ≤ at_)
theorem inv_next (l : List Gr) (t at_ n : Int) (ht : t = 2 ∨ t = 3) (h0 : 0 ≤ at_) (h1 : at_ ≤ 500) (h : Inv l t at_) : Inv (l ++ [gat t at_ n]) t (nat_ at_ n + (2 + 2 * (Int.tdiv n 2 % 2))) := by
  obtain ⟨⟨h2, h3⟩, h4⟩ := h
  have hb := nat_bounds at_ n h0
  refine ⟨⟨fun g hg => ?_, ?_⟩, fun g hg => ?_⟩
  · rcases List.mem_append.1 hg with hg | hg
    · exact h2 g hg
    · obtain rfl := List.mem_singleton.1 hg
      unfold Gok gat
      dsimp only
      refine ⟨ht, by omega, by omega, hb.2.2.1, by omega⟩
  · rw [List.pairwise_append]
    refine ⟨h3, by simp, fun a ha b hb2 => ?_⟩
    obtain rfl := List.mem_singleton.1 hb2
    have := h4 a ha
    unfold Gah gat
    dsimp only
    omega
  · rcases List.mem_append.1 hg with hg | hg
    · have := h4 g hg
      omega
    · obtain rfl := List.mem_singleton.1 hg
      unfold gat
      dsimp only
      omega
theorem all_loop (ks : List Int) (hk : ∀ x ∈ ks, -9223372036854775808 ≤ x ∧ x < 9223372036854775808) (t : Int) (ht : t = 2 ∨ t = 3) : ∀ (d i k : Nat) (l : List Gr) (at_ : Int), i + d = min ks.length 12 → 0 ≤ at_ → at_ ≤ 15 * i → l.length + d ≤ 500 → Inv l t at_ →
    ∃ l', busbarlaw14_All.l1 (k + 2 * d + 2) ks l t at_ (i : Int) = busbarlaw14_All.l0 k ks l' (t + 1) ∧ l'.length ≤ l.length + d ∧ Inv l' (t + 1) 0
  | 0, i, k, l, at_, hi, h0, h1, hl, hv => by
    refine ⟨l, ?_, by omega, hv.1, fun g hg => ?_⟩
    · show busbarlaw14_All.l1 (k + 2) ks l t at_ (i : Int) = _
      have hw : wrap64 (t + 1) = t + 1 := wrap64_id (by omega) (by omega)
      by_cases h : (i : Int) < (ks.length : Int)
      · rw [busbarlaw14_All.l1, if_pos h, decide_eq_false (by omega), busbarlaw14_All.j2, if_neg (by decide), hw]
      · rw [busbarlaw14_All.l1, if_neg h, busbarlaw14_All.j2, if_neg (by decide), hw]
    · have := hv.2 g hg
      omega
  | d + 1, i, k, l, at_, hi, h0, h1, hl, hv => by
    have hi1 : i < ks.length := by omega
    have hs := all_step ks hk l t at_ i (k + 2 * d + 2) hi1 (by omega) ht h0 (by omega) (by omega)
    have hb := nat_bounds at_ ks[i] h0
    rw [show k + 2 * (d + 1) + 2 = k + 2 * d + 2 + 2 by omega, hs]
    by_cases h2 : ks[i] % 2 = t - 2
    · rw [if_pos h2]
      have hv2 := inv_next l t at_ ks[i] ht h0 (by omega) hv
      obtain ⟨z, hz⟩ : ∃ z, z = nat_ at_ ks[i] + (2 + 2 * (Int.tdiv ks[i] 2 % 2)) := ⟨_, rfl⟩
      have hz0 : 0 ≤ z ∧ z ≤ 15 * ((i + 1 : Nat) : Int) := by
        obtain ⟨b1, b2, b3, b4, b5⟩ := hb
        omega
      rw [← hz] at hv2 ⊢
      obtain ⟨l', e, h3, h4⟩ := all_loop ks hk t ht d (i + 1) k (l ++ [gat t at_ ks[i]]) z (by omega) hz0.1 hz0.2 (by rw [List.length_append]; simp; omega) hv2
      exact ⟨l', e, by simp at h3; omega, h4⟩
    · rw [if_neg h2]
      obtain ⟨l', e, h3, h4⟩ := all_loop ks hk t ht d (i + 1) k l at_ (by omega) h0 (by omega) (by omega) hv
      exact ⟨l', e, by omega, h4⟩
def whole : List S46 := [⟨2, 0, 65536⟩, ⟨3, 0, 65536⟩]
theorem all_eq (ks : List Int) (hk : ∀ x ∈ ks, -9223372036854775808 ≤ x ∧ x < 9223372036854775808) : ∃ l, (∀ k, 70 ≤ k → busbarlaw14_All.f k ks = some (l, whole)) ∧ Gs l ∧ l.length ≤ 24 := by
  have hm : ∃ d, d = min ks.length 12 := ⟨_, rfl⟩
  obtain ⟨d, hd⟩ := hm
  obtain ⟨l1, e1, h1, v1⟩ := all_loop ks hk 2 (.inl rfl) d 0 (1 + (1 + 2 * d + 2)) [] 0 (by omega) (by omega) (by omega) (by simp; omega) ⟨⟨by simp, by simp⟩, by simp⟩
  obtain ⟨l2, e2, h2, v2⟩ := all_loop ks hk 3 (.inr rfl) d 0 1 l1 0 (by omega) (by omega) (by omega) (by simp at h1; omega) v1
  refine ⟨l2, fun k hk2 => ?_, v2.1, by simp at h1; omega⟩
  have h : busbarlaw14_All.f (1 + (1 + (1 + 2 * d + 2) + 2 * d + 2)) ks = some (l2, whole) := by
    unfold busbarlaw14_All.f
    rw [Nat.add_comm 1 (1 + (1 + 2 * d + 2) + 2 * d + 2), busbarlaw14_All.l0, if_pos (by decide)]
    refine Eq.trans e1 ?_
    rw [Nat.add_comm 1 (1 + 2 * d + 2), busbarlaw14_All.l0, if_pos (by decide)]
    refine Eq.trans e2 ?_
    rw [busbarlaw14_All.l0, if_neg (by decide)]
    rfl
  exact at_rounds (busbarlaw14_All.mono ks) (by omega) h
end Go.Proofs.Ytjlbgopgeepiaaa.LemGroupConf
set_option linter.unusedVariables false
set_option linter.unusedSimpArgs false
namespace Go.Proofs.Ytjlbgopgeepiaaa.LemGChkConf
open Go.RowKit Go.Proofs.Ytjlbgopgeepiaaa.PConf Go.Proofs.YtjlbgopgeepiaaaW.PrintWords Go.Proofs.YtjlbgopgeepiaaaW.PrintLast Go.Proofs.YtjlbgopgeepiaaaW.PrintMore Go.Proofs.Ytjlbgopgeepiaaa.Num Go.Proofs.Ytjlbgopgeepiaaa.LemWithinConf Go.Proofs.Ytjlbgopgeepiaaa.LemSpanConf Go.Proofs.Ytjlbgopgeepiaaa.LemSpanFoConf Go.Proofs.Ytjlbgopgeepiaaa.LemSpanFqConf Go.Proofs.Ytjlbgopgeepiaaa.LemGroupConf
def Ok1 (g : Gr) : Prop := (g.f0 = 2 ∨ g.f0 = 3) ∧ (g.f2 = 2 ∨ g.f2 = 4) ∧ 0 ≤ g.f1 ∧ g.f1 < 65536
instance (g : Gr) : Decidable (Ok1 g) := by unfold Ok1; infer_instance
def bh (p g : Gr) : Prop := p.f0 < g.f0 ∨ (p.f0 = g.f0 ∧ wrap64 (p.f1 + p.f2) ≤ g.f1)
instance (p g : Gr) : Decidable (bh p g) := by unfold bh; infer_instance
end Go.Proofs.Ytjlbgopgeepiaaa.LemGChkConf
set_option linter.unusedVariables false
set_option linter.unusedSimpArgs false
namespace Go.Proofs.Ytjlbgopgeepiaaa.LemConfConf
open Go.RowKit Go.Proofs.Ytjlbgopgeepiaaa.PConf Go.Proofs.YtjlbgopgeepiaaaW.PrintWords Go.Proofs.YtjlbgopgeepiaaaW.PrintLast Go.Proofs.YtjlbgopgeepiaaaW.PrintMore Go.Proofs.Ytjlbgopgeepiaaa.Num Go.Proofs.Ytjlbgopgeepiaaa.LemWithinConf Go.Proofs.Ytjlbgopgeepiaaa.LemDigitConf Go.Proofs.Ytjlbgopgeepiaaa.LemSpanConf Go.Proofs.Ytjlbgopgeepiaaa.LemCheckConf Go.Proofs.Ytjlbgopgeepiaaa.LemGroupConf Go.Proofs.Ytjlbgopgeepiaaa.LemGChkConf Go.Proofs.Ytjlbgopgeepiaaa.LemIdenConf
def InR (a3 a4 a5 a6 a7 a8 a9 a10 : Int) : Prop := (1 ≤ a3 ∧ a3 ≤ 65535) ∧ (1 ≤ a4 ∧ a4 ≤ 32) ∧ (0 ≤ a5 ∧ a5 ≤ 32) ∧ (0 ≤ a6 ∧ a6 ≤ 1048576) ∧ (1 ≤ a7 ∧ a7 ≤ 1000) ∧ (1 ≤ a8 ∧ a8 ≤ 5000) ∧ (260 ≤ a9 ∧ a9 ≤ 65536) ∧ (260 ≤ a10 ∧ a10 ≤ 65536)
instance (a3 a4 a5 a6 a7 a8 a9 a10 : Int) : Decidable (InR a3 a4 a5 a6 a7 a8 a9 a10) := by unfold InR; infer_instance
theorem rd_get (l : List Int) (i : Nat) (h : i < l.length) : rd l (i : Int) = l[i] := by simp [rd, List.getD_eq_getElem?_getD, List.getElem?_eq_getElem h]
def cmap : List S46 := [(⟨0, 0, 40⟩ : S46), (⟨1, 0, 40⟩ : S46), (⟨2, 0, 20⟩ : S46), (⟨2, 24, 40⟩ : S46), (⟨3, 0, 40⟩ : S46)]
def cgrp : List S48 := [(⟨2, 4, 2⟩ : S48), (⟨2, 8, 4⟩ : S48), (⟨3, 4, 4⟩ : S48)]
def uobj : List S50 := [(⟨0, (⟨#[98, 117, 115, 98, 97, 114]⟩ : ByteArray)⟩ : S50), (⟨1, (⟨#[98, 49]⟩ : ByteArray)⟩ : S50), (⟨2, (⟨#[49, 46, 48]⟩ : ByteArray)⟩ : S50)]
theorem usual_5 : busbarref12_Usual.f 5 = some ([(⟨0, 0, 1000⟩ : S46), (⟨1, 0, 1000⟩ : S46), (⟨2, 0, 1000⟩ : S46), (⟨3, 0, 1000⟩ : S46)], [], 60000, 100, 32, 8, 10000, 100, 500, 1024, 1024, 0, uobj) := by kernel_rfl
theorem usual_ev {k : Nat} (h : 5 ≤ k) : busbarref12_Usual.f k = some ([(⟨0, 0, 1000⟩ : S46), (⟨1, 0, 1000⟩ : S46), (⟨2, 0, 1000⟩ : S46), (⟨3, 0, 1000⟩ : S46)], [], 60000, 100, 32, 8, 10000, 100, 500, 1024, 1024, 0, uobj) := at_rounds (g := fun k => busbarref12_Usual.f k) busbarref12_Usual.mono h usual_5
theorem at_eq (ks : List Int) (hks : ∀ x ∈ ks, -9223372036854775808 ≤ x ∧ x < 9223372036854775808) (hl : ks.length ≤ 9223372036854775807) (i : Nat) : ∃ v, busbarlaw0_At.f ks (i : Int) = some v ∧ -9223372036854775808 ≤ v ∧ v < 9223372036854775808 := by
  unfold busbarlaw0_At.f
  rw [if_neg (by omega)]
  by_cases h : i < ks.length
  · rw [if_neg (by omega), if_pos (by omega), if_pos (by omega), rd_get ks i h]
    exact ⟨_, rfl, hks _ (List.getElem_mem h)⟩
  · rw [if_pos (by omega)]
    exact ⟨0, rfl, by omega, by omega⟩
theorem law_conf (ks : List Int) (hks : ∀ x ∈ ks, -9223372036854775808 ≤ x ∧ x < 9223372036854775808) (hl : ks.length ≤ 9223372036854775807) {k : Nat} (hk : 10 ≤ k) : ∃ a3 a4 a5 a6 a7 a8 a11, busbarlaw0_Conf.f k ks = some (cmap, cgrp, 100, a3, a4, a5, a6, a7, a8, 1024, 1024, a11, uobj) ∧ InR a3 a4 a5 a6 a7 a8 1024 1024 := by
  obtain ⟨k, rfl⟩ : ∃ m, k = m + 2 := ⟨k - 2, by omega⟩
  obtain ⟨v0, h0, b0⟩ := at_eq ks hks hl 0
  obtain ⟨v1, h1, b1⟩ := at_eq ks hks hl 1
  obtain ⟨v2, h2, b2⟩ := at_eq ks hks hl 2
  obtain ⟨v3, h3, b3⟩ := at_eq ks hks hl 3
  rw [show ((0 : Nat) : Int) = 0 from rfl] at h0
  rw [show ((1 : Nat) : Int) = 1 from rfl] at h1
  rw [show ((2 : Nat) : Int) = 2 from rfl] at h2
  rw [show ((3 : Nat) : Int) = 3 from rfl] at h3
  have p1 := Int.emod_nonneg v0 (show (12 : Int) ≠ 0 by omega)
  have p2 := Int.emod_lt_of_pos v0 (show (0 : Int) < 12 by omega)
  have q1 := Int.emod_nonneg (Int.tdiv v0 12) (show (5 : Int) ≠ 0 by omega)
  have q2 := Int.emod_lt_of_pos (Int.tdiv v0 12) (show (0 : Int) < 5 by omega)
  have r1 := Int.emod_nonneg v1 (show (6 : Int) ≠ 0 by omega)
  have r2 := Int.emod_lt_of_pos v1 (show (0 : Int) < 6 by omega)
  have s1 := Int.emod_nonneg (Int.tdiv v1 6) (show (20 : Int) ≠ 0 by omega)
  have s2 := Int.emod_lt_of_pos (Int.tdiv v1 6) (show (0 : Int) < 20 by omega)
  have t1 := Int.emod_nonneg (Int.tdiv v2 4) (show (60 : Int) ≠ 0 by omega)
  have t2 := Int.emod_lt_of_pos (Int.tdiv v2 4) (show (0 : Int) < 60 by omega)
  have u1 := Int.emod_nonneg (Int.tdiv v2 240) (show (6 : Int) ≠ 0 by omega)
  have u2 := Int.emod_lt_of_pos (Int.tdiv v2 240) (show (0 : Int) < 6 by omega)
  have hj1 : ∀ a3 a4 a5 a6 a7 a8 : Int, InR a3 1 a5 a6 a7 a8 1024 1024 → ∃ a3' a4' a5' a6' a7' a8' a11', busbarlaw0_Conf.j1 (k + 1) ks cmap cgrp 100 a3 a4 a5 a6 a7 a8 1024 1024 0 uobj = some (cmap, cgrp, 100, a3', a4', a5', a6', a7', a8', 1024, 1024, a11', uobj) ∧ InR a3' a4' a5' a6' a7' a8' 1024 1024 := by
    intro a3 a4 a5 a6 a7 a8 h
    have hI : InR a3 (1 + Int.tdiv v2 240 % 6) a5 a6 a7 a8 1024 1024 := by
      unfold InR at h ⊢
      omega
    rw [busbarlaw0_Conf.j1, h2, Option.bind_some, digit_eq v2 240 6 b2 (by omega) (by omega) (by omega), Option.bind_some, h3, Option.bind_some, within_eq v3 9 (by omega) (by omega), Option.bind_some, Option.bind_some, digit_eq v3 9 6 b3 (by omega) (by omega) (by omega), Option.bind_some, wrap64_id (x := 1 + Int.tdiv v2 240 % 6) (by omega) (by omega)]
    by_cases c : Int.tdiv v3 9 % 6 = 0
    · rw [if_pos c]
      exact ⟨_, _, _, _, _, _, _, rfl, hI⟩
    · rw [if_neg c]
      exact ⟨_, _, _, _, _, _, _, rfl, hI⟩
  have hj0 : ∀ a3 a4 a5 a7 a8 : Int, InR a3 1 a5 2000 a7 a8 1024 1024 → ∃ a3' a4' a5' a6' a7' a8' a11', busbarlaw0_Conf.j0 (k + 2) ks cmap cgrp 100 a3 a4 a5 2000 a7 a8 1024 1024 0 uobj = some (cmap, cgrp, 100, a3', a4', a5', a6', a7', a8', 1024, 1024, a11', uobj) ∧ InR a3' a4' a5' a6' a7' a8' 1024 1024 := by
    intro a3 a4 a5 a7 a8 h
    rw [busbarlaw0_Conf.j0, h2, Option.bind_some, within_eq v2 4 (by omega) (by omega), Option.bind_some]
    by_cases c : v2 % 4 = 0
    · rw [if_pos c, Option.bind_some, digit_eq v2 4 60 b2 (by omega) (by omega) (by omega), Option.bind_some]
      exact hj1 _ _ _ _ _ _ (by unfold InR at h ⊢; omega)
    · rw [if_neg c]
      exact hj1 _ _ _ _ _ _ h
  unfold busbarlaw0_Conf.f
  rw [usual_ev (by omega), Option.bind_some, Option.bind_some, Option.bind_some, h0, Option.bind_some, within_eq v0 12 (by omega) (by omega), Option.bind_some, Option.bind_some, digit_eq v0 12 5 b0 (by omega) (by omega) (by omega), Option.bind_some, h1, Option.bind_some, within_eq v1 6 (by omega) (by omega), Option.bind_some, Option.bind_some, digit_eq v1 6 20 b1 (by omega) (by omega) (by omega), Option.bind_some, Option.bind_some, digit_eq v1 120 3 b1 (by omega) (by omega) (by omega), Option.bind_some]
  have w1 : wrap64 (1 + v0 % 12) = 1 + v0 % 12 := wrap64_id (by omega) (by omega)
  have w2 : wrap64 (1 + v1 % 6) = 1 + v1 % 6 := wrap64_id (by omega) (by omega)
  have w3 : wrap64 (1 + Int.tdiv v1 6 % 20) = 1 + Int.tdiv v1 6 % 20 := wrap64_id (by omega) (by omega)
  rw [w1]
  by_cases c : Int.tdiv v1 120 % 3 > 0
  · rw [if_pos c]
    exact hj0 _ _ _ _ _ (by unfold InR; omega)
  · rw [if_neg c, w2, w3]
    exact hj0 _ _ _ _ _ (by unfold InR; omega)
end Go.Proofs.Ytjlbgopgeepiaaa.LemConfConf
namespace Go.Proofs.Ytjlbgopgeepiaaa.PConf
open Go.RowKit Go.Proofs.YtjlbgopgeepiaaaW.PrintWords Go.Proofs.YtjlbgopgeepiaaaW.PrintLast Go.Proofs.YtjlbgopgeepiaaaW.PrintMore
attribute [local go_sem] max2_int min2_int max_two min_two max_three min_three max_four min_four plus_setCell_drewN plus_cell_same   -- for this text's walks alone
set_option linter.unusedVariables false
set_option linter.unusedSimpArgs false
def conf_Usual.l0 : Nat → List Int → Int → Int → List (S46) → Int → Int → Int → Int → Int → Int → Int → Int → Int → Int → List (S50) → Option ((List (S46)) × (List (S48)) × Int × Int × Int × Int × Int × Int × Int × Int × Int × Int × (List (S50)))
 | 0, _, _, _, _, _, _, _, _, _, _, _, _, _, _, _ => none
 | k + 1, x9, x10, x11, x170000, x170002, x170003, x170004, x170005, x170006, x170007, x170008, x170009, x170010, x170011, x170012 => if x11 < x10 then (if 0 ≤ x11 then (if x11 < (x9.length : Int) then (if x170000.length < 5864062014805 then (conf_Usual.l0 k x9 x10 (wrap64 (x11 + 1)) (x170000 ++ [(⟨rd x9 x11, 0, 1000⟩ : S46)]) x170002 x170003 x170004 x170005 x170006 x170007 x170008 x170009 x170010 x170011 x170012) else (none)) else (none)) else (none)) else (some (x170000, ([] : List (S48)), x170002, x170003, x170004, x170005, x170006, x170007, x170008, x170009, x170010, x170011, x170012))
def conf_Usual.f (k : Nat)  : Option ((List (S46)) × (List (S48)) × Int × Int × Int × Int × Int × Int × Int × Int × Int × Int × (List (S50))) := (some (([0, 1, 2, 3] : List Int) : List Int)).bind fun y170 => (conf_Usual.l0 k y170 (y170.length : Int) 0 ([] : List (S46)) 60000 100 32 8 10000 100 500 1024 1024 0 (([(⟨0, (⟨#[98, 117, 115, 98, 97, 114]⟩ : ByteArray)⟩ : S50), (⟨1, (⟨#[98, 49]⟩ : ByteArray)⟩ : S50), (⟨2, (⟨#[49, 46, 48]⟩ : ByteArray)⟩ : S50)] : List (S50))))
theorem conf_Usual.mono_l : ∀ k, (∀ y0 y1 y2 y3 y4 y5 y6 y7 y8 y9 y10 y11 y12 y13 y14, LeO (conf_Usual.l0 k y0 y1 y2 y3 y4 y5 y6 y7 y8 y9 y10 y11 y12 y13 y14) (conf_Usual.l0 (k + 1) y0 y1 y2 y3 y4 y5 y6 y7 y8 y9 y10 y11 y12 y13 y14))
 | 0 => fun _ _ _ _ _ _ _ _ _ _ _ _ _ _ _ r h => by simp [conf_Usual.l0] at h
 | k + 1 => by
  have ih0 := conf_Usual.mono_l k
  ·
   intro y0 y1 y2 y3 y4 y5 y6 y7 y8 y9 y10 y11 y12 y13 y14
   unfold conf_Usual.l0
   repeat' first
   | (with_reducible exact ih0 _ _ _ _ _ _ _ _ _ _ _ _ _ _ _)
   | (with_reducible exact LeO.refl _)
   | (with_reducible exact LeO.none _)
   | (with_reducible refine LeO.ite ?_ ?_)
   | (with_reducible refine LeO.bind ?_ (fun _ => ?_))
   | exact ih0 _ _ _ _ _ _ _ _ _ _ _ _ _ _ _
   | exact LeO.none _
   | refine LeO.ite ?_ ?_
   | refine LeO.bind ?_ (fun _ => ?_)
theorem conf_Usual.mono : ∀ k, LeO (conf_Usual.f k ) (conf_Usual.f (k + 1) ) := by
 intro  k
 have ih0 := conf_Usual.mono_l k
 unfold conf_Usual.f
 repeat' first
   | (with_reducible exact ih0 _ _ _ _ _ _ _ _ _ _ _ _ _ _ _)
   | (with_reducible exact LeO.refl _)
   | (with_reducible exact LeO.none _)
   | (with_reducible refine LeO.ite ?_ ?_)
   | (with_reducible refine LeO.bind ?_ (fun _ => ?_))
   | exact ih0 _ _ _ _ _ _ _ _ _ _ _ _ _ _ _
   | exact LeO.none _
   | refine LeO.ite ?_ ?_
   | refine LeO.bind ?_ (fun _ => ?_)
set_option maxHeartbeats 8000000 in
set_option maxRecDepth 100000 in
theorem conf_Usual.calls (k : Nat)  (r1 : List (S46)) (r2 : List (S48)) (r3 : Int) (r4 : Int) (r5 : Int) (r6 : Int) (r7 : Int) (r8 : Int) (r9 : Int) (r10 : Int) (r11 : Int) (r12 : Int) (r13 : List (S50)) (w : World) (h : conf_Usual.f k  = some (r1, r2, r3, r4, r5, r6, r7, r8, r9, r10, r11, r12, r13)) :
  Calls Try.prog 13 #[] w fun e w' => ∃ v0_ v1_ v12_ : Value, e = .returned (.agg #[v0_, v1_, .int .i64 r3, .int .i64 r4, .int .i64 r5, .int .i64 r6, .int .i64 r7, .int .i64 r8, .int .i64 r9, .int .i64 r10, .int .i64 r11, .int .u64 r12, v12_]) ∧ Kd.R k46 46 w' w.heap.size (fun _ => True) v0_ r1 ∧ Kd.R k48 48 w' w.heap.size (fun _ => True) v1_ r2 ∧ Kd.R k50 50 w' w.heap.size (fun _ => True) v12_ r13 ∧ Below w.heap.size w w' := by
 have hu27 := Try.underlying27
 have hu50 := Try.underlying50
 have hu46 := Try.underlying46
 have HB := Aside0.mk (Below.refl w.heap.size w)
 have H : ((some (([0, 1, 2, 3] : List Int) : List Int)).bind fun y170 => (conf_Usual.l0 k y170 (y170.length : Int) 0 ([] : List (S46)) 60000 100 32 8 10000 100 500 1024 1024 0 (([(⟨0, (⟨#[98, 117, 115, 98, 97, 114]⟩ : ByteArray)⟩ : S50), (⟨1, (⟨#[98, 49]⟩ : ByteArray)⟩ : S50), (⟨2, (⟨#[49, 46, 48]⟩ : ByteArray)⟩ : S50)] : List (S50))))) = some (r1, r2, r3, r4, r5, r6, r7, r8, r9, r10, r11, r12, r13) := h
 clear h
 obtain ⟨y166, hy166⟩ : ∃ y_ : List (S50), y_ = (([(⟨0, (⟨#[98, 117, 115, 98, 97, 114]⟩ : ByteArray)⟩ : S50), (⟨1, (⟨#[98, 49]⟩ : ByteArray)⟩ : S50), (⟨2, (⟨#[49, 46, 48]⟩ : ByteArray)⟩ : S50)] : List (S50))) := ⟨_, rfl⟩
 replace H : ((some (([0, 1, 2, 3] : List Int) : List Int)).bind fun y170 => (conf_Usual.l0 k y170 (y170.length : Int) 0 ([] : List (S46)) 60000 100 32 8 10000 100 500 1024 1024 0 y166)) = some (r1, r2, r3, r4, r5, r6, r7, r8, r9, r10, r11, r12, r13) := by first | (rw [hy166]; with_reducible exact H) | (have H2_ := (Option.bind_some _ _).symm.trans H; rw [hy166]; with_reducible exact H2_) | (have H2_ := (Option.bind_some _ _).symm.trans H; with_reducible exact H2_) | with_reducible exact H | (rw [hy166]; exact H) | exact H
 have Ny166 := Aside0.mk hy166
 clear hy166
 obtain ⟨y170, hy170⟩ : ∃ y_ : List Int, y_ = (([0, 1, 2, 3] : List Int)) := ⟨_, rfl⟩
 replace H : (conf_Usual.l0 k y170 (y170.length : Int) 0 ([] : List (S46)) 60000 100 32 8 10000 100 500 1024 1024 0 y166) = some (r1, r2, r3, r4, r5, r6, r7, r8, r9, r10, r11, r12, r13) := by first | (rw [hy170]; with_reducible exact H) | (have H2_ := (Option.bind_some _ _).symm.trans H; rw [hy170]; with_reducible exact H2_) | (have H2_ := (Option.bind_some _ _).symm.trans H; with_reducible exact H2_) | with_reducible exact H | (rw [hy170]; exact H) | exact H
 have Ny170 := Aside0.mk hy170
 clear hy170
 have H' := Aside0.mk H
 clear H
 go_enter Try.func13, Try.ntmps13
 go_wp2_with (first | ((with_reducible refine gate_dst (N := 0) rfl ?_); refine box_event ?hg (N := 0) ?hd (cs := #[.slice none 0 0, .slice none 0 0, .int .i64 0, .int .i64 0, .int .i64 0, .int .i64 0, .int .i64 0, .int .i64 0, .int .i64 0, .int .i64 0, .int .i64 0, .int .u64 0, .slice none 0 0]) (t := 27) ?hr ?_; (case hd => rfl); (case hg => rfl); (case hr => first | (go_simp; done) | (go_simp; rfl)); intro gb165 hg w1 hbox hb; have BK165 := Aside0.mk (hbox); have GW165 := Aside0.mk ((by rw [hg]; exact (below_size (HB.out)) : w.heap.size ≤ gb165)); have GE165 := Aside0.mk ((by rw [hg]; exact (below_size (HB.out)) : w.heap.size ≤ gb165)); replace HB := Aside0.mk (below_step (HB.out) hb); clear hb hbox hg) | ((with_reducible refine gate_dst (N := 7) rfl ?_); refine Kd.R_lit k50 _ 50 ?hg (N := 7) ?hd (xs := ([(⟨0, (⟨#[98, 117, 115, 98, 97, 114]⟩ : ByteArray)⟩ : S50), (⟨1, (⟨#[98, 49]⟩ : ByteArray)⟩ : S50), (⟨2, (⟨#[49, 46, 48]⟩ : ByteArray)⟩ : S50)] : List (S50))) (inner := [.int .i64 0, .string (⟨#[98, 117, 115, 98, 97, 114]⟩ : ByteArray), .int .i64 1, .string (⟨#[98, 49]⟩ : ByteArray), .int .i64 2, .string (⟨#[49, 46, 48]⟩ : ByteArray)]) (ok := fun _ => True) (okp := fun _ => True) ?hr ?hp (fun _ hk => hk) trivial (Below.refl _ _) (Nat.le_refl _) (by simp) ?_; (case hd => rfl); (case hg => rfl); (case hr => first | (go_simp; done) | (go_simp; rfl)); (case hp => exact (Reps.c2 (show Kd.M k50 _ _ _ (⟨0, (⟨#[98, 117, 115, 98, 97, 114]⟩ : ByteArray)⟩ : S50) [.int .i64 0, .string (⟨#[98, 117, 115, 98, 97, 114]⟩ : ByteArray)] from (k50_mkM _ _ _ (⟨0, (⟨#[98, 117, 115, 98, 97, 114]⟩ : ByteArray)⟩ : S50) )) (Reps.c2 (show Kd.M k50 _ _ _ (⟨1, (⟨#[98, 49]⟩ : ByteArray)⟩ : S50) [.int .i64 1, .string (⟨#[98, 49]⟩ : ByteArray)] from (k50_mkM _ _ _ (⟨1, (⟨#[98, 49]⟩ : ByteArray)⟩ : S50) )) (Reps.c2 (show Kd.M k50 _ _ _ (⟨2, (⟨#[49, 46, 48]⟩ : ByteArray)⟩ : S50) [.int .i64 2, .string (⟨#[49, 46, 48]⟩ : ByteArray)] from (k50_mkM _ _ _ (⟨2, (⟨#[49, 46, 48]⟩ : ByteArray)⟩ : S50) )) (Reps.none _ _))))); intro v167 w2 ho3 hb hg_ hnew_; clear hg_ hnew_; (first | rw [← Ny166.out] at ho3 | (simp only [Int.reduceToNat] at ho3; rw [← Ny166.out] at ho3)); have HO168 := Aside0.mk (Kd.R_lower ho3 (below_size (HB.out))); replace BK165 := Aside0.mk (blk_below BK165.out hb); replace HB := Aside0.mk (below_step (HB.out) hb); clear hb ho3; obtain ⟨Ao4, co4, eo4⟩ := Kd.R_slice HO168.out; subst eo4) | ((with_reducible refine gate_dst (N := 1) rfl ?_); refine box_event ?hg (N := 1) ?hd (cs := #[.slice none 0 0, .slice none 0 0, .int .i64 0, .int .i64 0, .int .i64 0, .int .i64 0, .int .i64 0, .int .i64 0, .int .i64 0, .int .i64 0, .int .i64 0, .int .u64 0, .slice none 0 0]) (t := 27) ?hr ?_; (case hd => rfl); (case hg => rfl); (case hr => first | (go_simp; done) | (go_simp; rfl)); intro gb169 hg w5 hbox hb; replace HO168 := Aside0.mk (Kd.R_below (HO168.out) hb); have BK169 := Aside0.mk (hbox); have GW169 := Aside0.mk ((by rw [hg]; exact (below_size (HB.out)) : w.heap.size ≤ gb169)); have GE169 := Aside0.mk ((by rw [hg]; exact (below_size (HB.out)) : w.heap.size ≤ gb169)); replace HB := Aside0.mk (below_step (HB.out) hb); have NB165_169 := Aside0.mk ((by rw [hg]; exact Nat.ne_of_lt (blk_lt (g := gb165) (o := .cells #[.slice none 0 0, .slice none 0 0, .int .i64 0, .int .i64 0, .int .i64 0, .int .i64 0, .int .i64 0, .int .i64 0, .int .i64 0, .int .i64 0, .int .i64 0, .int .u64 0, .slice none 0 0] 27 (0, 0)) (BK165.out)) : gb165 ≠ gb169)); have NB169_165 := Aside0.mk ((by rw [hg]; exact Nat.ne_of_gt (blk_lt (g := gb165) (o := .cells #[.slice none 0 0, .slice none 0 0, .int .i64 0, .int .i64 0, .int .i64 0, .int .i64 0, .int .i64 0, .int .i64 0, .int .i64 0, .int .i64 0, .int .i64 0, .int .u64 0, .slice none 0 0] 27 (0, 0)) (BK165.out)) : gb169 ≠ gb165)); replace BK165 := Aside0.mk (blk_below BK165.out hb); clear hb hbox hg; have hnb6 := NB169_165.out; have hnc6 := NB165_169.out; obtain ⟨hcz7_0, hcz7_1, hcz7_2, hcz7_3, hcz7_4, hcz7_5, hcz7_6, hcz7_7, hcz7_8, hcz7_9, hcz7_10, hcz7_11, hcz7_12⟩ := blkc13 BK169.out; obtain ⟨hfz7_0, hfz7_1, hfz7_2, hfz7_3, hfz7_4, hfz7_5, hfz7_6, hfz7_7, hfz7_8, hfz7_9, hfz7_10, hfz7_11, hfz7_12⟩ := blkf13 BK169.out) | ((with_reducible refine gate_dst (N := 9) rfl ?_); refine Kd.R_lit (Kd.int .i64) _ 3 ?hg (N := 9) ?hd (xs := ([0, 1, 2, 3] : List Int)) (inner := [.int .i64 0, .int .i64 1, .int .i64 2, .int .i64 3]) (ok := fun _ => True) (okp := fun _ => True) ?hr ?hp (fun _ hk => hk) trivial (Below.refl _ _) (Nat.le_refl _) (by simp) ?_; (case hd => rfl); (case hg => rfl); (case hr => first | (go_simp; done) | (go_simp; rfl)); (case hp => exact (Reps.one (show Kd.M (Kd.int .i64) _ _ _ 0 [.int .i64 0] from rfl) (Reps.one (show Kd.M (Kd.int .i64) _ _ _ 1 [.int .i64 1] from rfl) (Reps.one (show Kd.M (Kd.int .i64) _ _ _ 2 [.int .i64 2] from rfl) (Reps.one (show Kd.M (Kd.int .i64) _ _ _ 3 [.int .i64 3] from rfl) (Reps.none _ _)))))); intro v171 w8 ho9 hb hg_ hnew_; clear hg_ hnew_; (first | rw [← Ny170.out] at ho9 | (simp only [Int.reduceToNat] at ho9; rw [← Ny170.out] at ho9)); replace HO168 := Aside0.mk (Kd.R_below ((Kd.R_mono (Kd.rfR (Kd.rfR (Kd.rfR (Kd.rfR (Kd.rfR (Kd.rfR (Kd.rfR (Kd.rfR (Kd.rfR (Kd.rfR (Kd.rfR (Kd.rfR (Kd.rfR (Kd.R_types HO168.out BK169.out (by decide))))))))))))))) (fun _ h_ => h_.1))) hb); have HO172 := Aside0.mk (Kd.R_lower ho9 (below_size (by repeat (first | (with_reducible first | exact HB.out | apply below_alloc | apply pw_below_drewN | apply below_drew1 | refine below_set ?_ GE165.out | refine below_set ?_ GE169.out) | exact HB.out)))); replace BK165 := Aside0.mk (blk_below (g := gb165) (o := .cells #[.slice none 0 0, .slice none 0 0, .int .i64 0, .int .i64 0, .int .i64 0, .int .i64 0, .int .i64 0, .int .i64 0, .int .i64 0, .int .i64 0, .int .i64 0, .int .u64 0, .slice none 0 0] 27 (0, 0)) (by (with_reducible repeat (first | refine blk_drewN ?_ _ | refine blk_drew ?_ | refine blk_alloc ?_ _)); refine blk_far ?_ NB165_169.out _; (with_reducible repeat (first | refine blk_drewN ?_ _ | refine blk_drew ?_ | refine blk_alloc ?_ _)); refine blk_far ?_ NB165_169.out _; (with_reducible repeat (first | refine blk_drewN ?_ _ | refine blk_drew ?_ | refine blk_alloc ?_ _)); refine blk_far ?_ NB165_169.out _; (with_reducible repeat (first | refine blk_drewN ?_ _ | refine blk_drew ?_ | refine blk_alloc ?_ _)); refine blk_far ?_ NB165_169.out _; (with_reducible repeat (first | refine blk_drewN ?_ _ | refine blk_drew ?_ | refine blk_alloc ?_ _)); refine blk_far ?_ NB165_169.out _; (with_reducible repeat (first | refine blk_drewN ?_ _ | refine blk_drew ?_ | refine blk_alloc ?_ _)); refine blk_far ?_ NB165_169.out _; (with_reducible repeat (first | refine blk_drewN ?_ _ | refine blk_drew ?_ | refine blk_alloc ?_ _)); refine blk_far ?_ NB165_169.out _; (with_reducible repeat (first | refine blk_drewN ?_ _ | refine blk_drew ?_ | refine blk_alloc ?_ _)); refine blk_far ?_ NB165_169.out _; (with_reducible repeat (first | refine blk_drewN ?_ _ | refine blk_drew ?_ | refine blk_alloc ?_ _)); refine blk_far ?_ NB165_169.out _; (with_reducible repeat (first | refine blk_drewN ?_ _ | refine blk_drew ?_ | refine blk_alloc ?_ _)); refine blk_far ?_ NB165_169.out _; (with_reducible repeat (first | refine blk_drewN ?_ _ | refine blk_drew ?_ | refine blk_alloc ?_ _)); refine blk_far ?_ NB165_169.out _; (with_reducible repeat (first | refine blk_drewN ?_ _ | refine blk_drew ?_ | refine blk_alloc ?_ _)); refine blk_far ?_ NB165_169.out _; (with_reducible repeat (first | refine blk_drewN ?_ _ | refine blk_drew ?_ | refine blk_alloc ?_ _)); refine blk_far ?_ NB165_169.out _; (with_reducible repeat (first | refine blk_drewN ?_ _ | refine blk_drew ?_ | refine blk_alloc ?_ _)); exact BK165.out) hb); replace BK169 := Aside0.mk (blk_below (g := gb169) (o := .cells #[.slice none 0 0, .slice none 0 0, .int .i64 60000, .int .i64 100, .int .i64 32, .int .i64 8, .int .i64 10000, .int .i64 100, .int .i64 500, .int .i64 1024, .int .i64 1024, .int .u64 0, .slice Ao4 y166.length co4] 27 (0, 0)) (by (with_reducible repeat (first | refine blk_drewN ?_ _ | refine blk_drew ?_ | refine blk_alloc ?_ _)); refine blk_put (cs := #[.slice none 0 0, .slice none 0 0, .int .i64 60000, .int .i64 100, .int .i64 32, .int .i64 8, .int .i64 10000, .int .i64 100, .int .i64 500, .int .i64 1024, .int .i64 1024, .int .u64 0, .slice none 0 0]) ?_ 12 _ rfl; (with_reducible repeat (first | refine blk_drewN ?_ _ | refine blk_drew ?_ | refine blk_alloc ?_ _)); refine blk_put (cs := #[.slice none 0 0, .slice none 0 0, .int .i64 60000, .int .i64 100, .int .i64 32, .int .i64 8, .int .i64 10000, .int .i64 100, .int .i64 500, .int .i64 1024, .int .i64 1024, .int .u64 0, .slice none 0 0]) ?_ 11 _ rfl; (with_reducible repeat (first | refine blk_drewN ?_ _ | refine blk_drew ?_ | refine blk_alloc ?_ _)); refine blk_put (cs := #[.slice none 0 0, .slice none 0 0, .int .i64 60000, .int .i64 100, .int .i64 32, .int .i64 8, .int .i64 10000, .int .i64 100, .int .i64 500, .int .i64 1024, .int .i64 0, .int .u64 0, .slice none 0 0]) ?_ 10 _ rfl; (with_reducible repeat (first | refine blk_drewN ?_ _ | refine blk_drew ?_ | refine blk_alloc ?_ _)); refine blk_put (cs := #[.slice none 0 0, .slice none 0 0, .int .i64 60000, .int .i64 100, .int .i64 32, .int .i64 8, .int .i64 10000, .int .i64 100, .int .i64 500, .int .i64 0, .int .i64 0, .int .u64 0, .slice none 0 0]) ?_ 9 _ rfl; (with_reducible repeat (first | refine blk_drewN ?_ _ | refine blk_drew ?_ | refine blk_alloc ?_ _)); refine blk_put (cs := #[.slice none 0 0, .slice none 0 0, .int .i64 60000, .int .i64 100, .int .i64 32, .int .i64 8, .int .i64 10000, .int .i64 100, .int .i64 0, .int .i64 0, .int .i64 0, .int .u64 0, .slice none 0 0]) ?_ 8 _ rfl; (with_reducible repeat (first | refine blk_drewN ?_ _ | refine blk_drew ?_ | refine blk_alloc ?_ _)); refine blk_put (cs := #[.slice none 0 0, .slice none 0 0, .int .i64 60000, .int .i64 100, .int .i64 32, .int .i64 8, .int .i64 10000, .int .i64 0, .int .i64 0, .int .i64 0, .int .i64 0, .int .u64 0, .slice none 0 0]) ?_ 7 _ rfl; (with_reducible repeat (first | refine blk_drewN ?_ _ | refine blk_drew ?_ | refine blk_alloc ?_ _)); refine blk_put (cs := #[.slice none 0 0, .slice none 0 0, .int .i64 60000, .int .i64 100, .int .i64 32, .int .i64 8, .int .i64 0, .int .i64 0, .int .i64 0, .int .i64 0, .int .i64 0, .int .u64 0, .slice none 0 0]) ?_ 6 _ rfl; (with_reducible repeat (first | refine blk_drewN ?_ _ | refine blk_drew ?_ | refine blk_alloc ?_ _)); refine blk_put (cs := #[.slice none 0 0, .slice none 0 0, .int .i64 60000, .int .i64 100, .int .i64 32, .int .i64 0, .int .i64 0, .int .i64 0, .int .i64 0, .int .i64 0, .int .i64 0, .int .u64 0, .slice none 0 0]) ?_ 5 _ rfl; (with_reducible repeat (first | refine blk_drewN ?_ _ | refine blk_drew ?_ | refine blk_alloc ?_ _)); refine blk_put (cs := #[.slice none 0 0, .slice none 0 0, .int .i64 60000, .int .i64 100, .int .i64 0, .int .i64 0, .int .i64 0, .int .i64 0, .int .i64 0, .int .i64 0, .int .i64 0, .int .u64 0, .slice none 0 0]) ?_ 4 _ rfl; (with_reducible repeat (first | refine blk_drewN ?_ _ | refine blk_drew ?_ | refine blk_alloc ?_ _)); refine blk_put (cs := #[.slice none 0 0, .slice none 0 0, .int .i64 60000, .int .i64 0, .int .i64 0, .int .i64 0, .int .i64 0, .int .i64 0, .int .i64 0, .int .i64 0, .int .i64 0, .int .u64 0, .slice none 0 0]) ?_ 3 _ rfl; (with_reducible repeat (first | refine blk_drewN ?_ _ | refine blk_drew ?_ | refine blk_alloc ?_ _)); refine blk_put (cs := #[.slice none 0 0, .slice none 0 0, .int .i64 0, .int .i64 0, .int .i64 0, .int .i64 0, .int .i64 0, .int .i64 0, .int .i64 0, .int .i64 0, .int .i64 0, .int .u64 0, .slice none 0 0]) ?_ 2 _ rfl; (with_reducible repeat (first | refine blk_drewN ?_ _ | refine blk_drew ?_ | refine blk_alloc ?_ _)); refine blk_put (cs := #[.slice none 0 0, .slice none 0 0, .int .i64 0, .int .i64 0, .int .i64 0, .int .i64 0, .int .i64 0, .int .i64 0, .int .i64 0, .int .i64 0, .int .i64 0, .int .u64 0, .slice none 0 0]) ?_ 1 _ rfl; (with_reducible repeat (first | refine blk_drewN ?_ _ | refine blk_drew ?_ | refine blk_alloc ?_ _)); refine blk_put (cs := #[.slice none 0 0, .slice none 0 0, .int .i64 0, .int .i64 0, .int .i64 0, .int .i64 0, .int .i64 0, .int .i64 0, .int .i64 0, .int .i64 0, .int .i64 0, .int .u64 0, .slice none 0 0]) ?_ 0 _ rfl; (with_reducible repeat (first | refine blk_drewN ?_ _ | refine blk_drew ?_ | refine blk_alloc ?_ _)); exact BK169.out) hb); replace HB := Aside0.mk (below_step (by repeat (first | (with_reducible first | exact HB.out | apply below_alloc | apply pw_below_drewN | apply below_drew1 | refine below_set ?_ GE165.out | refine below_set ?_ GE169.out) | exact HB.out)) hb); clear hb ho9; obtain ⟨Ao10, co10, eo10⟩ := Kd.R_slice HO172.out; subst eo10))
 go_loopg [11] k (fun kq v11 w' => ∃ (x11_1 : Int) (x170000_1 : List (S46)) (u170000 : Value), v11 = .int .i64 x11_1 ∧ Aside0 (conf_Usual.l0 kq y170 (y170.length : Int) x11_1 x170000_1 60000 100 32 8 10000 100 500 1024 1024 0 y166 = some (r1, r2, r3, r4, r5, r6, r7, r8, r9, r10, r11, r12, r13)) ∧ Aside0 (kq ≤ k) ∧ Aside0 (Kd.R (Kd.int .i64) 3 w' w.heap.size (fun _ => True) (.slice Ao10 y170.length co10) y170) ∧ Aside0 (Kd.R k46 46 w' w.heap.size (fun _ => True) u170000 x170000_1) ∧ Aside0 (Kd.R k50 50 w' w.heap.size (fun _ => True) (.slice Ao4 y166.length co4) y166) ∧ Aside0 (w'.heap[gb165]? = some (.cells #[(.slice none 0 0), (.slice none 0 0), .int .i64 0, .int .i64 0, .int .i64 0, .int .i64 0, .int .i64 0, .int .i64 0, .int .i64 0, .int .i64 0, .int .i64 0, .int .u64 0, (.slice none 0 0)] 27 (0, 0))) ∧ Aside0 (w'.heap[gb169]? = some (.cells #[u170000, (.slice none 0 0), .int .i64 60000, .int .i64 100, .int .i64 32, .int .i64 8, .int .i64 10000, .int .i64 100, .int .i64 500, .int .i64 1024, .int .i64 1024, .int .u64 0, (.slice Ao4 y166.length co4)] 27 (0, 0))) ∧ Aside0 (Below w.heap.size w w'))
 case atStart => exact ⟨(0), (([] : List (S46))), (.slice none 0 0), (by first | rfl | (simp; done) | (simp [*]; done)), H', ⟨Nat.le_refl _⟩, ⟨HO172.out⟩, ⟨by first | exact Kd.R_nil _ _ _ _ _ | exact Kd.N_nil _ _ _ _ _ | exact Kd.V_nil _ _ _ _ _ | exact Kd.Q_nil _ _ _ _ _ | exact Kd.S_nil _ _ _ _ _⟩, ⟨HO168.out⟩, ⟨BK165.out⟩, ⟨BK169.out⟩, ⟨HB.out⟩⟩
 case round =>
  clear H'
  (try clear hcz7_0); (try clear hcz7_1); (try clear hcz7_10); (try clear hcz7_11); (try clear hcz7_12); (try clear hcz7_2); (try clear hcz7_3); (try clear hcz7_4); (try clear hcz7_5); (try clear hcz7_6); (try clear hcz7_7); (try clear hcz7_8); (try clear hcz7_9); (try clear hfz7_0); (try clear hfz7_1); (try clear hfz7_10); (try clear hfz7_11); (try clear hfz7_12); (try clear hfz7_2); (try clear hfz7_3); (try clear hfz7_4); (try clear hfz7_5); (try clear hfz7_6); (try clear hfz7_7); (try clear hfz7_8); (try clear hfz7_9)
  obtain ⟨x11_1, x170000_1, u170000, rfl, HA, HK1, HO_9, HO_170000, HO_170012, BK165, BK169, HB⟩ := hrel
  cases gk with
  | zero => exact absurd HA.out (by simp [conf_Usual.l0])
  | succ k1 =>
   have H := HA.out
   clear HA
   simp only [conf_Usual.l0] at H
   by_cases c11 : x11_1 < (y170.length : Int)
   ·
    rw [if_pos c11] at H
    have c11b0 : decide (x11_1 < (y170.length : Int)) = true := decide_eq_true c11
    clear c11
    by_cases c12 : 0 ≤ x11_1
    ·
     rw [if_pos c12] at H
     have c12b0 : decide (0 ≤ x11_1) = true := decide_eq_true c12
     clear c12
     by_cases c13 : x11_1 < (y170.length : Int)
     ·
      rw [if_pos c13] at H
      have c13b0 : decide (x11_1 < (y170.length : Int)) = true := decide_eq_true c13
      clear c13
      by_cases c14 : x170000_1.length < 5864062014805
      ·
       rw [if_pos c14] at H
       have LMc14 := Aside0.mk c14
       clear c14
       obtain ⟨y174, hy174⟩ : ∃ y_ : List (S46), y_ = (x170000_1 ++ [(⟨rd y170 x11_1, 0, 1000⟩ : S46)]) := ⟨_, rfl⟩
       replace H : (conf_Usual.l0 k1 y170 (y170.length : Int) (wrap64 (x11_1 + 1)) y174 60000 100 32 8 10000 100 500 1024 1024 0 y166) = some (r1, r2, r3, r4, r5, r6, r7, r8, r9, r10, r11, r12, r13) := by first | (rw [hy174]; with_reducible exact H) | (have H2_ := (Option.bind_some _ _).symm.trans H; rw [hy174]; with_reducible exact H2_) | (have H2_ := (Option.bind_some _ _).symm.trans H; with_reducible exact H2_) | with_reducible exact H | (rw [hy174]; exact H) | exact H
       have Ny174 := Aside0.mk hy174
       clear hy174
       have H' := Aside0.mk H
       clear H
       have p173 : 0 ≤ (x11_1 : Int) := of_decide_eq_true (by first | (with_reducible assumption) | assumption)
       have q173 : x11_1 < (y170.length : Int) := of_decide_eq_true (by first | (with_reducible assumption) | assumption)
       obtain ⟨ad173, e173, hx173_0⟩ := Kd.at_int (Kd.R_reads' HO_9.out).2.2 x11_1 p173 q173
       cases e173
       replace p173 := eq_true p173
       replace q173 := eq_true q173
       have hnb15 := NB169_165.out
       have hnc15 := NB165_169.out
       obtain ⟨hcz16_0, hcz16_1, hcz16_2, hcz16_3, hcz16_4, hcz16_5, hcz16_6, hcz16_7, hcz16_8, hcz16_9, hcz16_10, hcz16_11, hcz16_12⟩ := blkc13 BK169.out
       obtain ⟨hfz16_0, hfz16_1, hfz16_2, hfz16_3, hfz16_4, hfz16_5, hfz16_6, hfz16_7, hfz16_8, hfz16_9, hfz16_10, hfz16_11, hfz16_12⟩ := blkf13 BK169.out
       go_wp2_with (first | ((with_reducible refine gate_builtin (b := .append) (xs := #[.tmp 16, .tmp 19]) rfl ?_); at_builtin; refine Kd.R_append k46 (w0 := w) w.heap.size rfl (.tmp 16) (.tmp 19) 22 46 (.agg #[(.int .i64 0), (.int .i64 0), (.int .i64 0)]) 24 rfl Try.underlying22 info46 rfl (by decide) (by omega) u170000 x170000_1 (⟨rd y170 x11_1, 0, 1000⟩ : S46) [.int .i64 (rd y170 x11_1), .int .i64 0, .int .i64 1000] (fun _ => True) (fun _ => False) rfl rfl ?aP (fun _ hk => hk.elim) ?aF ?aO ?aB ?aS ?aL ?_; (case aP => exact k46_mkM _ _ _ (⟨rd y170 x11_1, 0, 1000⟩ : S46)); (case aB => exact (HB.out)); (case aF => exact (fun _ _ => trivial)); (case aO => exact (HO_170000.out)); (case aS => exact (below_size (HB.out))); (case aL => have := LMc14.out; omega); intro v175 w17 ho hb hg hat; rw [← Ny174.out] at ho; replace HO_9 := Aside0.mk (Kd.R_over' (HO_9.out) (Kd.R_typed (HO_170000.out)) (by decide) hg); replace HO_170012 := Aside0.mk (Kd.R_over' (HO_170012.out) (Kd.R_typed (HO_170000.out)) (by decide) hg); replace BK165 := Aside0.mk (blk_grown (g := gb165) (o := .cells #[.slice none 0 0, .slice none 0 0, .int .i64 0, .int .i64 0, .int .i64 0, .int .i64 0, .int .i64 0, .int .i64 0, .int .i64 0, .int .i64 0, .int .i64 0, .int .u64 0, .slice none 0 0] 27 (0, 0)) (BK165.out) hg (Kd.R_ne HO_170000.out BK165.out (by decide))); replace BK169 := Aside0.mk (blk_grown (g := gb169) (o := .cells #[u170000, .slice none 0 0, .int .i64 60000, .int .i64 100, .int .i64 32, .int .i64 8, .int .i64 10000, .int .i64 100, .int .i64 500, .int .i64 1024, .int .i64 1024, .int .u64 0, .slice Ao4 y166.length co4] 27 (0, 0)) (BK169.out) hg (Kd.R_ne HO_170000.out BK169.out (by decide))); replace HB := Aside0.mk (hb); have HO176 := Aside0.mk (ho); clear HO_170000; clear ho hb hg hat; obtain ⟨Ao18, co18, eo18⟩ := Kd.R_slice HO176.out; subst eo18; obtain ⟨hcz19_0, hcz19_1, hcz19_2, hcz19_3, hcz19_4, hcz19_5, hcz19_6, hcz19_7, hcz19_8, hcz19_9, hcz19_10, hcz19_11, hcz19_12⟩ := blkc13 BK169.out; obtain ⟨hfz19_0, hfz19_1, hfz19_2, hfz19_3, hfz19_4, hfz19_5, hfz19_6, hfz19_7, hfz19_8, hfz19_9, hfz19_10, hfz19_11, hfz19_12⟩ := blkf13 BK169.out))
       go_roundg k1
       case measure => have := HK1.out; omega
       case rel => exact ⟨(wrap64 (x11_1 + 1)), (y174), (.slice Ao18 y174.length co18), (by first | rfl | (simp; done) | (simp [*]; done)), H', ⟨by have := HK1.out; omega⟩, ⟨Kd.R_mono (Kd.rfR (Kd.R_types HO_9.out BK169.out (by decide))) (fun _ hk => trivial)⟩, ⟨Kd.R_mono (Kd.rfR (Kd.R_types HO176.out BK169.out (by decide))) (fun _ hk => trivial)⟩, ⟨Kd.R_mono (Kd.rfR (Kd.R_types HO_170012.out BK169.out (by decide))) (fun _ hk => trivial)⟩, ⟨by (with_reducible repeat (first | refine blk_drewN ?_ _ | refine blk_drew ?_ | refine blk_alloc ?_ _)); refine blk_far ?_ NB165_169.out _; (with_reducible repeat (first | refine blk_drewN ?_ _ | refine blk_drew ?_ | refine blk_alloc ?_ _)); exact BK165.out⟩, ⟨by (with_reducible repeat (first | refine blk_drewN ?_ _ | refine blk_drew ?_ | refine blk_alloc ?_ _)); refine blk_put (cs := #[u170000, .slice none 0 0, .int .i64 60000, .int .i64 100, .int .i64 32, .int .i64 8, .int .i64 10000, .int .i64 100, .int .i64 500, .int .i64 1024, .int .i64 1024, .int .u64 0, .slice Ao4 y166.length co4]) ?_ 0 _ rfl; (with_reducible repeat (first | refine blk_drewN ?_ _ | refine blk_drew ?_ | refine blk_alloc ?_ _)); exact BK169.out⟩, ⟨by repeat (first | (with_reducible first | exact HB.out | apply below_alloc | apply pw_below_drewN | apply below_drew1 | refine below_set ?_ GE165.out | refine below_set ?_ GE169.out) | exact HB.out)⟩⟩
      ·
       rw [if_neg c14] at H
       exact absurd H (by simp)
     ·
      rw [if_neg c13] at H
      exact absurd H (by simp)
    ·
     rw [if_neg c12] at H
     exact absurd H (by simp)
   ·
    rw [if_neg c11] at H
    have c11b0 : decide (x11_1 < (y170.length : Int)) = false := decide_eq_false c11
    clear c11
    simp only [Option.some.injEq, Prod.mk.injEq] at H
    obtain ⟨rfl, rfl, rfl, rfl, rfl, rfl, rfl, rfl, rfl, rfl, rfl, rfl, rfl⟩ := H
    have hnb20 := NB169_165.out
    have hnc20 := NB165_169.out
    obtain ⟨hcz21_0, hcz21_1, hcz21_2, hcz21_3, hcz21_4, hcz21_5, hcz21_6, hcz21_7, hcz21_8, hcz21_9, hcz21_10, hcz21_11, hcz21_12⟩ := blkc13 BK169.out
    obtain ⟨hfz21_0, hfz21_1, hfz21_2, hfz21_3, hfz21_4, hfz21_5, hfz21_6, hfz21_7, hfz21_8, hfz21_9, hfz21_10, hfz21_11, hfz21_12⟩ := blkf13 BK169.out
    obtain ⟨Ao22, co22, eo22⟩ := Kd.R_slice HO_170000.out
    subst eo22
    obtain ⟨hcz23_0, hcz23_1, hcz23_2, hcz23_3, hcz23_4, hcz23_5, hcz23_6, hcz23_7, hcz23_8, hcz23_9, hcz23_10, hcz23_11, hcz23_12⟩ := blkc13 BK165.out
    obtain ⟨hfz23_0, hfz23_1, hfz23_2, hfz23_3, hfz23_4, hfz23_5, hfz23_6, hfz23_7, hfz23_8, hfz23_9, hfz23_10, hfz23_11, hfz23_12⟩ := blkf13 BK165.out
    go_wp2
    refine bodyPost_ret (results_cell_row rfl _ _ gb165 27 #[.slice Ao22 x170000_1.length co22, .slice none 0 0, .int .i64 60000, .int .i64 100, .int .i64 32, .int .i64 8, .int .i64 10000, .int .i64 100, .int .i64 500, .int .i64 1024, .int .i64 1024, .int .u64 0, .slice Ao4 y166.length co4] (0, 0) _ rfl (by (with_reducible repeat (first | refine blk_drewN ?_ _ | refine blk_drew ?_ | refine blk_alloc ?_ _)); refine blk_put (cs := #[.slice Ao22 x170000_1.length co22, .slice none 0 0, .int .i64 60000, .int .i64 100, .int .i64 32, .int .i64 8, .int .i64 10000, .int .i64 100, .int .i64 500, .int .i64 1024, .int .i64 1024, .int .u64 0, .slice none 0 0]) ?_ 12 _ rfl; (with_reducible repeat (first | refine blk_drewN ?_ _ | refine blk_drew ?_ | refine blk_alloc ?_ _)); refine blk_put (cs := #[.slice Ao22 x170000_1.length co22, .slice none 0 0, .int .i64 60000, .int .i64 100, .int .i64 32, .int .i64 8, .int .i64 10000, .int .i64 100, .int .i64 500, .int .i64 1024, .int .i64 1024, .int .u64 0, .slice none 0 0]) ?_ 11 _ rfl; (with_reducible repeat (first | refine blk_drewN ?_ _ | refine blk_drew ?_ | refine blk_alloc ?_ _)); refine blk_put (cs := #[.slice Ao22 x170000_1.length co22, .slice none 0 0, .int .i64 60000, .int .i64 100, .int .i64 32, .int .i64 8, .int .i64 10000, .int .i64 100, .int .i64 500, .int .i64 1024, .int .i64 0, .int .u64 0, .slice none 0 0]) ?_ 10 _ rfl; (with_reducible repeat (first | refine blk_drewN ?_ _ | refine blk_drew ?_ | refine blk_alloc ?_ _)); refine blk_put (cs := #[.slice Ao22 x170000_1.length co22, .slice none 0 0, .int .i64 60000, .int .i64 100, .int .i64 32, .int .i64 8, .int .i64 10000, .int .i64 100, .int .i64 500, .int .i64 0, .int .i64 0, .int .u64 0, .slice none 0 0]) ?_ 9 _ rfl; (with_reducible repeat (first | refine blk_drewN ?_ _ | refine blk_drew ?_ | refine blk_alloc ?_ _)); refine blk_put (cs := #[.slice Ao22 x170000_1.length co22, .slice none 0 0, .int .i64 60000, .int .i64 100, .int .i64 32, .int .i64 8, .int .i64 10000, .int .i64 100, .int .i64 0, .int .i64 0, .int .i64 0, .int .u64 0, .slice none 0 0]) ?_ 8 _ rfl; (with_reducible repeat (first | refine blk_drewN ?_ _ | refine blk_drew ?_ | refine blk_alloc ?_ _)); refine blk_put (cs := #[.slice Ao22 x170000_1.length co22, .slice none 0 0, .int .i64 60000, .int .i64 100, .int .i64 32, .int .i64 8, .int .i64 10000, .int .i64 0, .int .i64 0, .int .i64 0, .int .i64 0, .int .u64 0, .slice none 0 0]) ?_ 7 _ rfl; (with_reducible repeat (first | refine blk_drewN ?_ _ | refine blk_drew ?_ | refine blk_alloc ?_ _)); refine blk_put (cs := #[.slice Ao22 x170000_1.length co22, .slice none 0 0, .int .i64 60000, .int .i64 100, .int .i64 32, .int .i64 8, .int .i64 0, .int .i64 0, .int .i64 0, .int .i64 0, .int .i64 0, .int .u64 0, .slice none 0 0]) ?_ 6 _ rfl; (with_reducible repeat (first | refine blk_drewN ?_ _ | refine blk_drew ?_ | refine blk_alloc ?_ _)); refine blk_put (cs := #[.slice Ao22 x170000_1.length co22, .slice none 0 0, .int .i64 60000, .int .i64 100, .int .i64 32, .int .i64 0, .int .i64 0, .int .i64 0, .int .i64 0, .int .i64 0, .int .i64 0, .int .u64 0, .slice none 0 0]) ?_ 5 _ rfl; (with_reducible repeat (first | refine blk_drewN ?_ _ | refine blk_drew ?_ | refine blk_alloc ?_ _)); refine blk_put (cs := #[.slice Ao22 x170000_1.length co22, .slice none 0 0, .int .i64 60000, .int .i64 100, .int .i64 0, .int .i64 0, .int .i64 0, .int .i64 0, .int .i64 0, .int .i64 0, .int .i64 0, .int .u64 0, .slice none 0 0]) ?_ 4 _ rfl; (with_reducible repeat (first | refine blk_drewN ?_ _ | refine blk_drew ?_ | refine blk_alloc ?_ _)); refine blk_put (cs := #[.slice Ao22 x170000_1.length co22, .slice none 0 0, .int .i64 60000, .int .i64 0, .int .i64 0, .int .i64 0, .int .i64 0, .int .i64 0, .int .i64 0, .int .i64 0, .int .i64 0, .int .u64 0, .slice none 0 0]) ?_ 3 _ rfl; (with_reducible repeat (first | refine blk_drewN ?_ _ | refine blk_drew ?_ | refine blk_alloc ?_ _)); refine blk_put (cs := #[.slice Ao22 x170000_1.length co22, .slice none 0 0, .int .i64 0, .int .i64 0, .int .i64 0, .int .i64 0, .int .i64 0, .int .i64 0, .int .i64 0, .int .i64 0, .int .i64 0, .int .u64 0, .slice none 0 0]) ?_ 2 _ rfl; (with_reducible repeat (first | refine blk_drewN ?_ _ | refine blk_drew ?_ | refine blk_alloc ?_ _)); refine blk_put (cs := #[.slice Ao22 x170000_1.length co22, .slice none 0 0, .int .i64 0, .int .i64 0, .int .i64 0, .int .i64 0, .int .i64 0, .int .i64 0, .int .i64 0, .int .i64 0, .int .i64 0, .int .u64 0, .slice none 0 0]) ?_ 1 _ rfl; (with_reducible repeat (first | refine blk_drewN ?_ _ | refine blk_drew ?_ | refine blk_alloc ?_ _)); refine blk_put (cs := #[.slice none 0 0, .slice none 0 0, .int .i64 0, .int .i64 0, .int .i64 0, .int .i64 0, .int .i64 0, .int .i64 0, .int .i64 0, .int .i64 0, .int .i64 0, .int .u64 0, .slice none 0 0]) ?_ 0 _ rfl; (with_reducible repeat (first | refine blk_drewN ?_ _ | refine blk_drew ?_ | refine blk_alloc ?_ _)); exact BK165.out) Try.underlying27 rfl (by kernel_rfl)) rfl ?_
    exact ⟨_, _, _, by first | rfl | (simp [errW_none, errW_some] <;> rfl) | (simp [*, errW_none, errW_some] <;> rfl), Kd.R_mono (Kd.rfR (Kd.rfR (Kd.rfR (Kd.rfR (Kd.rfR (Kd.rfR (Kd.rfR (Kd.rfR (Kd.rfR (Kd.rfR (Kd.rfR (Kd.rfR (Kd.rfR (Kd.R_types HO_170000.out BK165.out (by decide))))))))))))))) (fun _ hk => trivial), by first | exact Kd.R_nil _ _ _ _ _ | exact Kd.N_nil _ _ _ _ _ | exact Kd.V_nil _ _ _ _ _ | exact Kd.Q_nil _ _ _ _ _ | exact Kd.S_nil _ _ _ _ _, Kd.R_mono (Kd.rfR (Kd.rfR (Kd.rfR (Kd.rfR (Kd.rfR (Kd.rfR (Kd.rfR (Kd.rfR (Kd.rfR (Kd.rfR (Kd.rfR (Kd.rfR (Kd.rfR (Kd.R_types HO_170012.out BK165.out (by decide))))))))))))))) (fun _ hk => trivial), by repeat (first | (with_reducible first | exact HB.out | apply below_alloc | apply pw_below_drewN | apply below_drew1 | refine below_set ?_ GE165.out | refine below_set ?_ GE169.out) | exact HB.out)⟩
end Go.Proofs.Ytjlbgopgeepiaaa.PConf
namespace Go.Proofs.Ytjlbgopgeepiaaa.PConf
open Go.RowKit Go.Proofs.YtjlbgopgeepiaaaW.PrintWords Go.Proofs.YtjlbgopgeepiaaaW.PrintLast Go.Proofs.YtjlbgopgeepiaaaW.PrintMore
attribute [local go_sem] max2_int min2_int max_two min_two max_three min_three max_four min_four plus_setCell_drewN plus_cell_same   -- for this text's walks alone
set_option linter.unusedVariables false
set_option linter.unusedSimpArgs false
def busbarlaw15_awake.f (k : Nat)  : Option (Bool) := (conf_Usual.f k).bind fun bt177 => ((conf_Check.f k bt177.1 bt177.2.1 bt177.2.2.1 bt177.2.2.2.1 bt177.2.2.2.2.1 bt177.2.2.2.2.2.1 bt177.2.2.2.2.2.2.1 bt177.2.2.2.2.2.2.2.1 bt177.2.2.2.2.2.2.2.2.1 bt177.2.2.2.2.2.2.2.2.2.1 bt177.2.2.2.2.2.2.2.2.2.2.1 bt177.2.2.2.2.2.2.2.2.2.2.2.1 bt177.2.2.2.2.2.2.2.2.2.2.2.2).bind fun t197 => (if t197 = 0 then (if bt177.2.2.1 = 60000 then (if (bt177.1.length : Int) = 4 then ((conf_Check.f k ([] : List (S46)) ([] : List (S48)) 0 0 0 0 0 0 0 0 0 0 ([] : List (S50))).bind fun t198 => (some (t198 == 1))) else (some false)) else (some false)) else (some false)))
theorem busbarlaw15_awake.mono : ∀ k, LeO (busbarlaw15_awake.f k ) (busbarlaw15_awake.f (k + 1) ) := by
 intro  k
 unfold busbarlaw15_awake.f
 repeat' first
   | (with_reducible exact conf_Check.mono _ _ _ _ _ _ _ _ _ _ _ _ _ _)
   | (with_reducible exact conf_Usual.mono _)
   | (with_reducible exact LeO.refl _)
   | (with_reducible exact LeO.none _)
   | (with_reducible refine LeO.ite ?_ ?_)
   | (with_reducible refine LeO.bind ?_ (fun _ => ?_))
   | exact conf_Check.mono _ _ _ _ _ _ _ _ _ _ _ _ _ _
   | exact conf_Usual.mono _
   | exact LeO.none _
   | refine LeO.ite ?_ ?_
   | refine LeO.bind ?_ (fun _ => ?_)
set_option maxHeartbeats 8000000 in
set_option maxRecDepth 100000 in
theorem busbarlaw15_awake.calls (k : Nat)  (r : Bool) (w : World) (h : busbarlaw15_awake.f k  = some r) :
  Calls Try.prog 7 #[] w fun e w' => e = .returned (.bool r) ∧ Below w.heap.size w w' := by
 have hu27 := Try.underlying27
 have HB := Aside0.mk (Below.refl w.heap.size w)
 have H : ((conf_Usual.f k).bind fun bt177 => ((conf_Check.f k bt177.1 bt177.2.1 bt177.2.2.1 bt177.2.2.2.1 bt177.2.2.2.2.1 bt177.2.2.2.2.2.1 bt177.2.2.2.2.2.2.1 bt177.2.2.2.2.2.2.2.1 bt177.2.2.2.2.2.2.2.2.1 bt177.2.2.2.2.2.2.2.2.2.1 bt177.2.2.2.2.2.2.2.2.2.2.1 bt177.2.2.2.2.2.2.2.2.2.2.2.1 bt177.2.2.2.2.2.2.2.2.2.2.2.2).bind fun t197 => (if t197 = 0 then (if bt177.2.2.1 = 60000 then (if (bt177.1.length : Int) = 4 then ((conf_Check.f k ([] : List (S46)) ([] : List (S48)) 0 0 0 0 0 0 0 0 0 0 ([] : List (S50))).bind fun t198 => (some (t198 == 1))) else (some false)) else (some false)) else (some false)))) = some r := h
 clear h
 replace H := Option.bind_eq_some_iff.mp H
 obtain ⟨⟨t177, t180, t183, t184, t185, t186, t187, t188, t189, t190, t191, t192, t193⟩, A10, H⟩ := H
 replace H : ((conf_Check.f k t177 t180 t183 t184 t185 t186 t187 t188 t189 t190 t191 t192 t193).bind fun t197 => (if t197 = 0 then (if t183 = 60000 then (if (t177.length : Int) = 4 then ((conf_Check.f k ([] : List (S46)) ([] : List (S48)) 0 0 0 0 0 0 0 0 0 0 ([] : List (S50))).bind fun t198 => (some (t198 == 1))) else (some false)) else (some false)) else (some false))) = some r := H
 have A1 := Aside0.mk A10
 clear A10
 replace H := Option.bind_eq_some_iff.mp H
 obtain ⟨t197, A20, H⟩ := H
 have A2 := Aside0.mk A20
 clear A20
 by_cases c3 : t197 = 0
 ·
  rw [if_pos c3] at H
  have c3b0 : (t197 == 0) = true := beq_iff_eq.mpr c3
  have c3b1 : (t197 != 0) = false := bne_eq_false_iff_eq.mpr c3
  clear c3
  by_cases c4 : t183 = 60000
  ·
   rw [if_pos c4] at H
   have c4b0 : (t183 == 60000) = true := beq_iff_eq.mpr c4
   have c4b1 : (t183 != 60000) = false := bne_eq_false_iff_eq.mpr c4
   clear c4
   by_cases c5 : (t177.length : Int) = 4
   ·
    rw [if_pos c5] at H
    have c5b0 : ((t177.length : Int) == 4) = true := beq_iff_eq.mpr c5
    have c5b1 : ((t177.length : Int) != 4) = false := bne_eq_false_iff_eq.mpr c5
    clear c5
    replace H := Option.bind_eq_some_iff.mp H
    obtain ⟨t198, A60, H⟩ := H
    have A6 := Aside0.mk A60
    clear A60
    obtain rfl := Option.some.inj H
    go_enter Try.func7, Try.ntmps7
    go_wp2_with (first | ((with_reducible refine gate_callee (f := 13) rfl ?_); refine goesL_ (some 2) rfl rfl Try.func13 (by kernel_rfl) rfl #[] rfl (by (try simp only [List.map_toArray, List.map_cons, List.map_nil]); first | done | rfl | (simp only [List.length_drop, List.length_take]; rfl)) ?_; (with_reducible refine (conf_Usual.calls k  t177 t180 t183 t184 t185 t186 t187 t188 t189 t190 t191 t192 t193 _ A1.out).mono ?_); rintro e w7 ⟨v178, v181, v194, rfl, ho0, ho1, ho2, hb⟩; refine ⟨_, rfl, ?_⟩; have HO179 := Aside0.mk (Kd.R_lower ho0 (below_size (HB.out))); have HO182 := Aside0.mk (Kd.R_lower ho1 (below_size (HB.out))); have HO195 := Aside0.mk (Kd.R_lower ho2 (below_size (HB.out))); replace HB := Aside0.mk (below_step (HB.out) hb); (try clear hb); (try clear ho0); (try clear ho1); (try clear ho2)) | ((with_reducible refine gate_dst (N := 1) rfl ?_); (try (refine gate_guard (by rfl) ?_; dsimp only)); refine box_event ?hg (N := 1) ?hd (cs := #[.slice none 0 0, .slice none 0 0, .int .i64 0, .int .i64 0, .int .i64 0, .int .i64 0, .int .i64 0, .int .i64 0, .int .i64 0, .int .i64 0, .int .i64 0, .int .u64 0, .slice none 0 0]) (t := 27) ?hr ?_; (case hd => rfl); (case hg => rfl); (case hr => first | (go_simp; done) | (go_simp; rfl)); intro gb196 hg w8 hbox hb; replace HO179 := Aside0.mk (Kd.R_below (HO179.out) hb); replace HO182 := Aside0.mk (Kd.R_below (HO182.out) hb); replace HO195 := Aside0.mk (Kd.R_below (HO195.out) hb); have BK196 := Aside0.mk (hbox); have GW196 := Aside0.mk ((by rw [hg]; exact (below_size (HB.out)) : w.heap.size ≤ gb196)); have GE196 := Aside0.mk ((by rw [hg]; exact (below_size (HB.out)) : w.heap.size ≤ gb196)); replace HB := Aside0.mk (below_step (HB.out) hb); clear hb hbox hg; obtain ⟨Ao9, co9, eo9⟩ := Kd.R_slice HO179.out; subst eo9; obtain ⟨hcz10_0, hcz10_1, hcz10_2, hcz10_3, hcz10_4, hcz10_5, hcz10_6, hcz10_7, hcz10_8, hcz10_9, hcz10_10, hcz10_11, hcz10_12⟩ := blkc13 BK196.out; obtain ⟨hfz10_0, hfz10_1, hfz10_2, hfz10_3, hfz10_4, hfz10_5, hfz10_6, hfz10_7, hfz10_8, hfz10_9, hfz10_10, hfz10_11, hfz10_12⟩ := blkf13 BK196.out; obtain ⟨Ao11, co11, eo11⟩ := Kd.R_slice HO182.out; subst eo11; obtain ⟨Ao12, co12, eo12⟩ := Kd.R_slice HO195.out; subst eo12) | ((with_reducible refine gate_callee (f := 8) rfl ?_); refine goesL_ (some 4) rfl rfl Try.func8 (by kernel_rfl) rfl #[.agg #[.slice Ao9 t177.length co9, .slice Ao11 t180.length co11, .int .i64 t183, .int .i64 t184, .int .i64 t185, .int .i64 t186, .int .i64 t187, .int .i64 t188, .int .i64 t189, .int .i64 t190, .int .i64 t191, .int .u64 t192, .slice Ao12 t193.length co12]] rfl (by (try simp only [List.map_toArray, List.map_cons, List.map_nil]); first | done | rfl | (simp only [List.length_drop, List.length_take]; rfl)) ?_; (with_reducible refine (conf_Check.calls k _ _ t177 _ _ t180 t183 t184 t185 t186 t187 t188 t189 t190 t191 t192 _ _ t193 t197 _ ?side1 ?side2 ?side3 ?side4 ?side5 ?side6 A2.out).mono ?_); (case side1 => refine (Kd.R_reads' (e := 46) (base := w.heap.size) (ok := fun k_ => True) (n := t177.length) (c := co9) ?_).2.2; exact ((Kd.R_mono (Kd.rfR (Kd.rfR (Kd.rfR (Kd.rfR (Kd.rfR (Kd.rfR (Kd.rfR (Kd.rfR (Kd.rfR (Kd.rfR (Kd.rfR (Kd.rfR (Kd.rfR (Kd.R_types HO179.out BK196.out (by decide))))))))))))))) (fun _ h_ => h_.1)))); (case side2 => exact (Kd.R_reads' HO179.out).2.1); (case side3 => refine (Kd.R_reads' (e := 48) (base := w.heap.size) (ok := fun k_ => True) (n := t180.length) (c := co11) ?_).2.2; exact ((Kd.R_mono (Kd.rfR (Kd.rfR (Kd.rfR (Kd.rfR (Kd.rfR (Kd.rfR (Kd.rfR (Kd.rfR (Kd.rfR (Kd.rfR (Kd.rfR (Kd.rfR (Kd.rfR (Kd.R_types HO182.out BK196.out (by decide))))))))))))))) (fun _ h_ => h_.1)))); (case side4 => exact (Kd.R_reads' HO182.out).2.1); (case side5 => refine (Kd.R_reads' (e := 50) (base := w.heap.size) (ok := fun k_ => True) (n := t193.length) (c := co12) ?_).2.2; exact ((Kd.R_mono (Kd.rfR (Kd.rfR (Kd.rfR (Kd.rfR (Kd.rfR (Kd.rfR (Kd.rfR (Kd.rfR (Kd.rfR (Kd.rfR (Kd.rfR (Kd.rfR (Kd.rfR (Kd.R_types HO195.out BK196.out (by decide))))))))))))))) (fun _ h_ => h_.1)))); (case side6 => exact (Kd.R_reads' HO195.out).2.1); rintro e w13 ⟨rfl, hb⟩; refine ⟨_, rfl, ?_⟩; replace HO179 := Aside0.mk (Kd.R_below ((Kd.R_mono (Kd.rfR (Kd.rfR (Kd.rfR (Kd.rfR (Kd.rfR (Kd.rfR (Kd.rfR (Kd.rfR (Kd.rfR (Kd.rfR (Kd.rfR (Kd.rfR (Kd.rfR (Kd.R_types HO179.out BK196.out (by decide))))))))))))))) (fun _ h_ => h_.1))) hb); replace HO182 := Aside0.mk (Kd.R_below ((Kd.R_mono (Kd.rfR (Kd.rfR (Kd.rfR (Kd.rfR (Kd.rfR (Kd.rfR (Kd.rfR (Kd.rfR (Kd.rfR (Kd.rfR (Kd.rfR (Kd.rfR (Kd.rfR (Kd.R_types HO182.out BK196.out (by decide))))))))))))))) (fun _ h_ => h_.1))) hb); replace HO195 := Aside0.mk (Kd.R_below ((Kd.R_mono (Kd.rfR (Kd.rfR (Kd.rfR (Kd.rfR (Kd.rfR (Kd.rfR (Kd.rfR (Kd.rfR (Kd.rfR (Kd.rfR (Kd.rfR (Kd.rfR (Kd.rfR (Kd.R_types HO195.out BK196.out (by decide))))))))))))))) (fun _ h_ => h_.1))) hb); replace BK196 := Aside0.mk (blk_below (g := gb196) (o := .cells #[.slice Ao9 t177.length co9, .slice Ao11 t180.length co11, .int .i64 t183, .int .i64 t184, .int .i64 t185, .int .i64 t186, .int .i64 t187, .int .i64 t188, .int .i64 t189, .int .i64 t190, .int .i64 t191, .int .u64 t192, .slice Ao12 t193.length co12] 27 (0, 0)) (by (with_reducible repeat (first | refine blk_drewN ?_ _ | refine blk_drew ?_ | refine blk_alloc ?_ _)); refine blk_put (cs := #[.slice Ao9 t177.length co9, .slice Ao11 t180.length co11, .int .i64 t183, .int .i64 t184, .int .i64 t185, .int .i64 t186, .int .i64 t187, .int .i64 t188, .int .i64 t189, .int .i64 t190, .int .i64 t191, .int .u64 t192, .slice none 0 0]) ?_ 12 _ rfl; (with_reducible repeat (first | refine blk_drewN ?_ _ | refine blk_drew ?_ | refine blk_alloc ?_ _)); refine blk_put (cs := #[.slice Ao9 t177.length co9, .slice Ao11 t180.length co11, .int .i64 t183, .int .i64 t184, .int .i64 t185, .int .i64 t186, .int .i64 t187, .int .i64 t188, .int .i64 t189, .int .i64 t190, .int .i64 t191, .int .u64 0, .slice none 0 0]) ?_ 11 _ rfl; (with_reducible repeat (first | refine blk_drewN ?_ _ | refine blk_drew ?_ | refine blk_alloc ?_ _)); refine blk_put (cs := #[.slice Ao9 t177.length co9, .slice Ao11 t180.length co11, .int .i64 t183, .int .i64 t184, .int .i64 t185, .int .i64 t186, .int .i64 t187, .int .i64 t188, .int .i64 t189, .int .i64 t190, .int .i64 0, .int .u64 0, .slice none 0 0]) ?_ 10 _ rfl; (with_reducible repeat (first | refine blk_drewN ?_ _ | refine blk_drew ?_ | refine blk_alloc ?_ _)); refine blk_put (cs := #[.slice Ao9 t177.length co9, .slice Ao11 t180.length co11, .int .i64 t183, .int .i64 t184, .int .i64 t185, .int .i64 t186, .int .i64 t187, .int .i64 t188, .int .i64 t189, .int .i64 0, .int .i64 0, .int .u64 0, .slice none 0 0]) ?_ 9 _ rfl; (with_reducible repeat (first | refine blk_drewN ?_ _ | refine blk_drew ?_ | refine blk_alloc ?_ _)); refine blk_put (cs := #[.slice Ao9 t177.length co9, .slice Ao11 t180.length co11, .int .i64 t183, .int .i64 t184, .int .i64 t185, .int .i64 t186, .int .i64 t187, .int .i64 t188, .int .i64 0, .int .i64 0, .int .i64 0, .int .u64 0, .slice none 0 0]) ?_ 8 _ rfl; (with_reducible repeat (first | refine blk_drewN ?_ _ | refine blk_drew ?_ | refine blk_alloc ?_ _)); refine blk_put (cs := #[.slice Ao9 t177.length co9, .slice Ao11 t180.length co11, .int .i64 t183, .int .i64 t184, .int .i64 t185, .int .i64 t186, .int .i64 t187, .int .i64 0, .int .i64 0, .int .i64 0, .int .i64 0, .int .u64 0, .slice none 0 0]) ?_ 7 _ rfl; (with_reducible repeat (first | refine blk_drewN ?_ _ | refine blk_drew ?_ | refine blk_alloc ?_ _)); refine blk_put (cs := #[.slice Ao9 t177.length co9, .slice Ao11 t180.length co11, .int .i64 t183, .int .i64 t184, .int .i64 t185, .int .i64 t186, .int .i64 0, .int .i64 0, .int .i64 0, .int .i64 0, .int .i64 0, .int .u64 0, .slice none 0 0]) ?_ 6 _ rfl; (with_reducible repeat (first | refine blk_drewN ?_ _ | refine blk_drew ?_ | refine blk_alloc ?_ _)); refine blk_put (cs := #[.slice Ao9 t177.length co9, .slice Ao11 t180.length co11, .int .i64 t183, .int .i64 t184, .int .i64 t185, .int .i64 0, .int .i64 0, .int .i64 0, .int .i64 0, .int .i64 0, .int .i64 0, .int .u64 0, .slice none 0 0]) ?_ 5 _ rfl; (with_reducible repeat (first | refine blk_drewN ?_ _ | refine blk_drew ?_ | refine blk_alloc ?_ _)); refine blk_put (cs := #[.slice Ao9 t177.length co9, .slice Ao11 t180.length co11, .int .i64 t183, .int .i64 t184, .int .i64 0, .int .i64 0, .int .i64 0, .int .i64 0, .int .i64 0, .int .i64 0, .int .i64 0, .int .u64 0, .slice none 0 0]) ?_ 4 _ rfl; (with_reducible repeat (first | refine blk_drewN ?_ _ | refine blk_drew ?_ | refine blk_alloc ?_ _)); refine blk_put (cs := #[.slice Ao9 t177.length co9, .slice Ao11 t180.length co11, .int .i64 t183, .int .i64 0, .int .i64 0, .int .i64 0, .int .i64 0, .int .i64 0, .int .i64 0, .int .i64 0, .int .i64 0, .int .u64 0, .slice none 0 0]) ?_ 3 _ rfl; (with_reducible repeat (first | refine blk_drewN ?_ _ | refine blk_drew ?_ | refine blk_alloc ?_ _)); refine blk_put (cs := #[.slice Ao9 t177.length co9, .slice Ao11 t180.length co11, .int .i64 0, .int .i64 0, .int .i64 0, .int .i64 0, .int .i64 0, .int .i64 0, .int .i64 0, .int .i64 0, .int .i64 0, .int .u64 0, .slice none 0 0]) ?_ 2 _ rfl; (with_reducible repeat (first | refine blk_drewN ?_ _ | refine blk_drew ?_ | refine blk_alloc ?_ _)); refine blk_put (cs := #[.slice Ao9 t177.length co9, .slice none 0 0, .int .i64 0, .int .i64 0, .int .i64 0, .int .i64 0, .int .i64 0, .int .i64 0, .int .i64 0, .int .i64 0, .int .i64 0, .int .u64 0, .slice none 0 0]) ?_ 1 _ rfl; (with_reducible repeat (first | refine blk_drewN ?_ _ | refine blk_drew ?_ | refine blk_alloc ?_ _)); refine blk_put (cs := #[.slice none 0 0, .slice none 0 0, .int .i64 0, .int .i64 0, .int .i64 0, .int .i64 0, .int .i64 0, .int .i64 0, .int .i64 0, .int .i64 0, .int .i64 0, .int .u64 0, .slice none 0 0]) ?_ 0 _ rfl; (with_reducible repeat (first | refine blk_drewN ?_ _ | refine blk_drew ?_ | refine blk_alloc ?_ _)); exact BK196.out) hb); replace HB := Aside0.mk (below_step (by repeat (first | (with_reducible first | exact HB.out | apply below_alloc | apply pw_below_drewN | apply below_drew1 | refine below_set ?_ GE196.out) | exact HB.out)) hb); (try clear hb); obtain ⟨hcz14_0, hcz14_1, hcz14_2, hcz14_3, hcz14_4, hcz14_5, hcz14_6, hcz14_7, hcz14_8, hcz14_9, hcz14_10, hcz14_11, hcz14_12⟩ := blkc13 BK196.out; obtain ⟨hfz14_0, hfz14_1, hfz14_2, hfz14_3, hfz14_4, hfz14_5, hfz14_6, hfz14_7, hfz14_8, hfz14_9, hfz14_10, hfz14_11, hfz14_12⟩ := blkf13 BK196.out) | (go_at_call 8; (refine (conf_Check.calls k _ _ ([] : List (S46)) _ _ ([] : List (S48)) 0 0 0 0 0 0 0 0 0 0 _ _ ([] : List (S50)) t198 _ ?side1 ?side2 ?side3 ?side4 ?side5 ?side6 A6.out).mono ?_); (case side1 => exact Kd.C_nil _ _); (case side2 => exact Nat.le_refl _); (case side3 => exact Kd.C_nil _ _); (case side4 => exact Nat.le_refl _); (case side5 => exact Kd.C_nil _ _); (case side6 => exact Nat.le_refl _); rintro e w15 ⟨rfl, hb⟩; replace HO179 := Aside0.mk (Kd.R_below (HO179.out) hb); replace HO182 := Aside0.mk (Kd.R_below (HO182.out) hb); replace HO195 := Aside0.mk (Kd.R_below (HO195.out) hb); replace BK196 := Aside0.mk (blk_below BK196.out hb); replace HB := Aside0.mk (below_step (HB.out) hb); (try clear hb); (try clear hi)))
    go_ret
    exact ⟨by first | rfl | (simp [errW_none, errW_some] <;> rfl) | (simp [*, errW_none, errW_some] <;> rfl), HB.out⟩
   ·
    rw [if_neg c5] at H
    have c5b0 : ((t177.length : Int) == 4) = false := beq_eq_false_iff_ne.mpr c5
    have c5b1 : ((t177.length : Int) != 4) = true := bne_iff_ne.mpr c5
    obtain rfl := Option.some.inj H
    go_enter Try.func7, Try.ntmps7
    go_wp2_with (first | ((with_reducible refine gate_callee (f := 13) rfl ?_); refine goesL_ (some 2) rfl rfl Try.func13 (by kernel_rfl) rfl #[] rfl (by (try simp only [List.map_toArray, List.map_cons, List.map_nil]); first | done | rfl | (simp only [List.length_drop, List.length_take]; rfl)) ?_; (with_reducible refine (conf_Usual.calls k  t177 t180 t183 t184 t185 t186 t187 t188 t189 t190 t191 t192 t193 _ A1.out).mono ?_); rintro e w16 ⟨v178, v181, v194, rfl, ho0, ho1, ho2, hb⟩; refine ⟨_, rfl, ?_⟩; have HO179 := Aside0.mk (Kd.R_lower ho0 (below_size (HB.out))); have HO182 := Aside0.mk (Kd.R_lower ho1 (below_size (HB.out))); have HO195 := Aside0.mk (Kd.R_lower ho2 (below_size (HB.out))); replace HB := Aside0.mk (below_step (HB.out) hb); (try clear hb); (try clear ho0); (try clear ho1); (try clear ho2)) | ((with_reducible refine gate_dst (N := 1) rfl ?_); (try (refine gate_guard (by rfl) ?_; dsimp only)); refine box_event ?hg (N := 1) ?hd (cs := #[.slice none 0 0, .slice none 0 0, .int .i64 0, .int .i64 0, .int .i64 0, .int .i64 0, .int .i64 0, .int .i64 0, .int .i64 0, .int .i64 0, .int .i64 0, .int .u64 0, .slice none 0 0]) (t := 27) ?hr ?_; (case hd => rfl); (case hg => rfl); (case hr => first | (go_simp; done) | (go_simp; rfl)); intro gb196 hg w17 hbox hb; replace HO179 := Aside0.mk (Kd.R_below (HO179.out) hb); replace HO182 := Aside0.mk (Kd.R_below (HO182.out) hb); replace HO195 := Aside0.mk (Kd.R_below (HO195.out) hb); have BK196 := Aside0.mk (hbox); have GW196 := Aside0.mk ((by rw [hg]; exact (below_size (HB.out)) : w.heap.size ≤ gb196)); have GE196 := Aside0.mk ((by rw [hg]; exact (below_size (HB.out)) : w.heap.size ≤ gb196)); replace HB := Aside0.mk (below_step (HB.out) hb); clear hb hbox hg; obtain ⟨Ao18, co18, eo18⟩ := Kd.R_slice HO179.out; subst eo18; obtain ⟨hcz19_0, hcz19_1, hcz19_2, hcz19_3, hcz19_4, hcz19_5, hcz19_6, hcz19_7, hcz19_8, hcz19_9, hcz19_10, hcz19_11, hcz19_12⟩ := blkc13 BK196.out; obtain ⟨hfz19_0, hfz19_1, hfz19_2, hfz19_3, hfz19_4, hfz19_5, hfz19_6, hfz19_7, hfz19_8, hfz19_9, hfz19_10, hfz19_11, hfz19_12⟩ := blkf13 BK196.out; obtain ⟨Ao20, co20, eo20⟩ := Kd.R_slice HO182.out; subst eo20; obtain ⟨Ao21, co21, eo21⟩ := Kd.R_slice HO195.out; subst eo21) | ((with_reducible refine gate_callee (f := 8) rfl ?_); refine goesL_ (some 4) rfl rfl Try.func8 (by kernel_rfl) rfl #[.agg #[.slice Ao18 t177.length co18, .slice Ao20 t180.length co20, .int .i64 t183, .int .i64 t184, .int .i64 t185, .int .i64 t186, .int .i64 t187, .int .i64 t188, .int .i64 t189, .int .i64 t190, .int .i64 t191, .int .u64 t192, .slice Ao21 t193.length co21]] rfl (by (try simp only [List.map_toArray, List.map_cons, List.map_nil]); first | done | rfl | (simp only [List.length_drop, List.length_take]; rfl)) ?_; (with_reducible refine (conf_Check.calls k _ _ t177 _ _ t180 t183 t184 t185 t186 t187 t188 t189 t190 t191 t192 _ _ t193 t197 _ ?side1 ?side2 ?side3 ?side4 ?side5 ?side6 A2.out).mono ?_); (case side1 => refine (Kd.R_reads' (e := 46) (base := w.heap.size) (ok := fun k_ => True) (n := t177.length) (c := co18) ?_).2.2; exact ((Kd.R_mono (Kd.rfR (Kd.rfR (Kd.rfR (Kd.rfR (Kd.rfR (Kd.rfR (Kd.rfR (Kd.rfR (Kd.rfR (Kd.rfR (Kd.rfR (Kd.rfR (Kd.rfR (Kd.R_types HO179.out BK196.out (by decide))))))))))))))) (fun _ h_ => h_.1)))); (case side2 => exact (Kd.R_reads' HO179.out).2.1); (case side3 => refine (Kd.R_reads' (e := 48) (base := w.heap.size) (ok := fun k_ => True) (n := t180.length) (c := co20) ?_).2.2; exact ((Kd.R_mono (Kd.rfR (Kd.rfR (Kd.rfR (Kd.rfR (Kd.rfR (Kd.rfR (Kd.rfR (Kd.rfR (Kd.rfR (Kd.rfR (Kd.rfR (Kd.rfR (Kd.rfR (Kd.R_types HO182.out BK196.out (by decide))))))))))))))) (fun _ h_ => h_.1)))); (case side4 => exact (Kd.R_reads' HO182.out).2.1); (case side5 => refine (Kd.R_reads' (e := 50) (base := w.heap.size) (ok := fun k_ => True) (n := t193.length) (c := co21) ?_).2.2; exact ((Kd.R_mono (Kd.rfR (Kd.rfR (Kd.rfR (Kd.rfR (Kd.rfR (Kd.rfR (Kd.rfR (Kd.rfR (Kd.rfR (Kd.rfR (Kd.rfR (Kd.rfR (Kd.rfR (Kd.R_types HO195.out BK196.out (by decide))))))))))))))) (fun _ h_ => h_.1)))); (case side6 => exact (Kd.R_reads' HO195.out).2.1); rintro e w22 ⟨rfl, hb⟩; refine ⟨_, rfl, ?_⟩; replace HO179 := Aside0.mk (Kd.R_below ((Kd.R_mono (Kd.rfR (Kd.rfR (Kd.rfR (Kd.rfR (Kd.rfR (Kd.rfR (Kd.rfR (Kd.rfR (Kd.rfR (Kd.rfR (Kd.rfR (Kd.rfR (Kd.rfR (Kd.R_types HO179.out BK196.out (by decide))))))))))))))) (fun _ h_ => h_.1))) hb); replace HO182 := Aside0.mk (Kd.R_below ((Kd.R_mono (Kd.rfR (Kd.rfR (Kd.rfR (Kd.rfR (Kd.rfR (Kd.rfR (Kd.rfR (Kd.rfR (Kd.rfR (Kd.rfR (Kd.rfR (Kd.rfR (Kd.rfR (Kd.R_types HO182.out BK196.out (by decide))))))))))))))) (fun _ h_ => h_.1))) hb); replace HO195 := Aside0.mk (Kd.R_below ((Kd.R_mono (Kd.rfR (Kd.rfR (Kd.rfR (Kd.rfR (Kd.rfR (Kd.rfR (Kd.rfR (Kd.rfR (Kd.rfR (Kd.rfR (Kd.rfR (Kd.rfR (Kd.rfR (Kd.R_types HO195.out BK196.out (by decide))))))))))))))) (fun _ h_ => h_.1))) hb); replace BK196 := Aside0.mk (blk_below (g := gb196) (o := .cells #[.slice Ao18 t177.length co18, .slice Ao20 t180.length co20, .int .i64 t183, .int .i64 t184, .int .i64 t185, .int .i64 t186, .int .i64 t187, .int .i64 t188, .int .i64 t189, .int .i64 t190, .int .i64 t191, .int .u64 t192, .slice Ao21 t193.length co21] 27 (0, 0)) (by (with_reducible repeat (first | refine blk_drewN ?_ _ | refine blk_drew ?_ | refine blk_alloc ?_ _)); refine blk_put (cs := #[.slice Ao18 t177.length co18, .slice Ao20 t180.length co20, .int .i64 t183, .int .i64 t184, .int .i64 t185, .int .i64 t186, .int .i64 t187, .int .i64 t188, .int .i64 t189, .int .i64 t190, .int .i64 t191, .int .u64 t192, .slice none 0 0]) ?_ 12 _ rfl; (with_reducible repeat (first | refine blk_drewN ?_ _ | refine blk_drew ?_ | refine blk_alloc ?_ _)); refine blk_put (cs := #[.slice Ao18 t177.length co18, .slice Ao20 t180.length co20, .int .i64 t183, .int .i64 t184, .int .i64 t185, .int .i64 t186, .int .i64 t187, .int .i64 t188, .int .i64 t189, .int .i64 t190, .int .i64 t191, .int .u64 0, .slice none 0 0]) ?_ 11 _ rfl; (with_reducible repeat (first | refine blk_drewN ?_ _ | refine blk_drew ?_ | refine blk_alloc ?_ _)); refine blk_put (cs := #[.slice Ao18 t177.length co18, .slice Ao20 t180.length co20, .int .i64 t183, .int .i64 t184, .int .i64 t185, .int .i64 t186, .int .i64 t187, .int .i64 t188, .int .i64 t189, .int .i64 t190, .int .i64 0, .int .u64 0, .slice none 0 0]) ?_ 10 _ rfl; (with_reducible repeat (first | refine blk_drewN ?_ _ | refine blk_drew ?_ | refine blk_alloc ?_ _)); refine blk_put (cs := #[.slice Ao18 t177.length co18, .slice Ao20 t180.length co20, .int .i64 t183, .int .i64 t184, .int .i64 t185, .int .i64 t186, .int .i64 t187, .int .i64 t188, .int .i64 t189, .int .i64 0, .int .i64 0, .int .u64 0, .slice none 0 0]) ?_ 9 _ rfl; (with_reducible repeat (first | refine blk_drewN ?_ _ | refine blk_drew ?_ | refine blk_alloc ?_ _)); refine blk_put (cs := #[.slice Ao18 t177.length co18, .slice Ao20 t180.length co20, .int .i64 t183, .int .i64 t184, .int .i64 t185, .int .i64 t186, .int .i64 t187, .int .i64 t188, .int .i64 0, .int .i64 0, .int .i64 0, .int .u64 0, .slice none 0 0]) ?_ 8 _ rfl; (with_reducible repeat (first | refine blk_drewN ?_ _ | refine blk_drew ?_ | refine blk_alloc ?_ _)); refine blk_put (cs := #[.slice Ao18 t177.length co18, .slice Ao20 t180.length co20, .int .i64 t183, .int .i64 t184, .int .i64 t185, .int .i64 t186, .int .i64 t187, .int .i64 0, .int .i64 0, .int .i64 0, .int .i64 0, .int .u64 0, .slice none 0 0]) ?_ 7 _ rfl; (with_reducible repeat (first | refine blk_drewN ?_ _ | refine blk_drew ?_ | refine blk_alloc ?_ _)); refine blk_put (cs := #[.slice Ao18 t177.length co18, .slice Ao20 t180.length co20, .int .i64 t183, .int .i64 t184, .int .i64 t185, .int .i64 t186, .int .i64 0, .int .i64 0, .int .i64 0, .int .i64 0, .int .i64 0, .int .u64 0, .slice none 0 0]) ?_ 6 _ rfl; (with_reducible repeat (first | refine blk_drewN ?_ _ | refine blk_drew ?_ | refine blk_alloc ?_ _)); refine blk_put (cs := #[.slice Ao18 t177.length co18, .slice Ao20 t180.length co20, .int .i64 t183, .int .i64 t184, .int .i64 t185, .int .i64 0, .int .i64 0, .int .i64 0, .int .i64 0, .int .i64 0, .int .i64 0, .int .u64 0, .slice none 0 0]) ?_ 5 _ rfl; (with_reducible repeat (first | refine blk_drewN ?_ _ | refine blk_drew ?_ | refine blk_alloc ?_ _)); refine blk_put (cs := #[.slice Ao18 t177.length co18, .slice Ao20 t180.length co20, .int .i64 t183, .int .i64 t184, .int .i64 0, .int .i64 0, .int .i64 0, .int .i64 0, .int .i64 0, .int .i64 0, .int .i64 0, .int .u64 0, .slice none 0 0]) ?_ 4 _ rfl; (with_reducible repeat (first | refine blk_drewN ?_ _ | refine blk_drew ?_ | refine blk_alloc ?_ _)); refine blk_put (cs := #[.slice Ao18 t177.length co18, .slice Ao20 t180.length co20, .int .i64 t183, .int .i64 0, .int .i64 0, .int .i64 0, .int .i64 0, .int .i64 0, .int .i64 0, .int .i64 0, .int .i64 0, .int .u64 0, .slice none 0 0]) ?_ 3 _ rfl; (with_reducible repeat (first | refine blk_drewN ?_ _ | refine blk_drew ?_ | refine blk_alloc ?_ _)); refine blk_put (cs := #[.slice Ao18 t177.length co18, .slice Ao20 t180.length co20, .int .i64 0, .int .i64 0, .int .i64 0, .int .i64 0, .int .i64 0, .int .i64 0, .int .i64 0, .int .i64 0, .int .i64 0, .int .u64 0, .slice none 0 0]) ?_ 2 _ rfl; (with_reducible repeat (first | refine blk_drewN ?_ _ | refine blk_drew ?_ | refine blk_alloc ?_ _)); refine blk_put (cs := #[.slice Ao18 t177.length co18, .slice none 0 0, .int .i64 0, .int .i64 0, .int .i64 0, .int .i64 0, .int .i64 0, .int .i64 0, .int .i64 0, .int .i64 0, .int .i64 0, .int .u64 0, .slice none 0 0]) ?_ 1 _ rfl; (with_reducible repeat (first | refine blk_drewN ?_ _ | refine blk_drew ?_ | refine blk_alloc ?_ _)); refine blk_put (cs := #[.slice none 0 0, .slice none 0 0, .int .i64 0, .int .i64 0, .int .i64 0, .int .i64 0, .int .i64 0, .int .i64 0, .int .i64 0, .int .i64 0, .int .i64 0, .int .u64 0, .slice none 0 0]) ?_ 0 _ rfl; (with_reducible repeat (first | refine blk_drewN ?_ _ | refine blk_drew ?_ | refine blk_alloc ?_ _)); exact BK196.out) hb); replace HB := Aside0.mk (below_step (by repeat (first | (with_reducible first | exact HB.out | apply below_alloc | apply pw_below_drewN | apply below_drew1 | refine below_set ?_ GE196.out) | exact HB.out)) hb); (try clear hb); obtain ⟨hcz23_0, hcz23_1, hcz23_2, hcz23_3, hcz23_4, hcz23_5, hcz23_6, hcz23_7, hcz23_8, hcz23_9, hcz23_10, hcz23_11, hcz23_12⟩ := blkc13 BK196.out; obtain ⟨hfz23_0, hfz23_1, hfz23_2, hfz23_3, hfz23_4, hfz23_5, hfz23_6, hfz23_7, hfz23_8, hfz23_9, hfz23_10, hfz23_11, hfz23_12⟩ := blkf13 BK196.out))
    go_ret
    exact ⟨by first | rfl | (simp [errW_none, errW_some] <;> rfl) | (simp [*, errW_none, errW_some] <;> rfl), HB.out⟩
  ·
   rw [if_neg c4] at H
   have c4b0 : (t183 == 60000) = false := beq_eq_false_iff_ne.mpr c4
   have c4b1 : (t183 != 60000) = true := bne_iff_ne.mpr c4
   obtain rfl := Option.some.inj H
   go_enter Try.func7, Try.ntmps7
   go_wp2_with (first | ((with_reducible refine gate_callee (f := 13) rfl ?_); refine goesL_ (some 2) rfl rfl Try.func13 (by kernel_rfl) rfl #[] rfl (by (try simp only [List.map_toArray, List.map_cons, List.map_nil]); first | done | rfl | (simp only [List.length_drop, List.length_take]; rfl)) ?_; (with_reducible refine (conf_Usual.calls k  t177 t180 t183 t184 t185 t186 t187 t188 t189 t190 t191 t192 t193 _ A1.out).mono ?_); rintro e w24 ⟨v178, v181, v194, rfl, ho0, ho1, ho2, hb⟩; refine ⟨_, rfl, ?_⟩; have HO179 := Aside0.mk (Kd.R_lower ho0 (below_size (HB.out))); have HO182 := Aside0.mk (Kd.R_lower ho1 (below_size (HB.out))); have HO195 := Aside0.mk (Kd.R_lower ho2 (below_size (HB.out))); replace HB := Aside0.mk (below_step (HB.out) hb); (try clear hb); (try clear ho0); (try clear ho1); (try clear ho2)) | ((with_reducible refine gate_dst (N := 1) rfl ?_); (try (refine gate_guard (by rfl) ?_; dsimp only)); refine box_event ?hg (N := 1) ?hd (cs := #[.slice none 0 0, .slice none 0 0, .int .i64 0, .int .i64 0, .int .i64 0, .int .i64 0, .int .i64 0, .int .i64 0, .int .i64 0, .int .i64 0, .int .i64 0, .int .u64 0, .slice none 0 0]) (t := 27) ?hr ?_; (case hd => rfl); (case hg => rfl); (case hr => first | (go_simp; done) | (go_simp; rfl)); intro gb196 hg w25 hbox hb; replace HO179 := Aside0.mk (Kd.R_below (HO179.out) hb); replace HO182 := Aside0.mk (Kd.R_below (HO182.out) hb); replace HO195 := Aside0.mk (Kd.R_below (HO195.out) hb); have BK196 := Aside0.mk (hbox); have GW196 := Aside0.mk ((by rw [hg]; exact (below_size (HB.out)) : w.heap.size ≤ gb196)); have GE196 := Aside0.mk ((by rw [hg]; exact (below_size (HB.out)) : w.heap.size ≤ gb196)); replace HB := Aside0.mk (below_step (HB.out) hb); clear hb hbox hg; obtain ⟨Ao26, co26, eo26⟩ := Kd.R_slice HO179.out; subst eo26; obtain ⟨hcz27_0, hcz27_1, hcz27_2, hcz27_3, hcz27_4, hcz27_5, hcz27_6, hcz27_7, hcz27_8, hcz27_9, hcz27_10, hcz27_11, hcz27_12⟩ := blkc13 BK196.out; obtain ⟨hfz27_0, hfz27_1, hfz27_2, hfz27_3, hfz27_4, hfz27_5, hfz27_6, hfz27_7, hfz27_8, hfz27_9, hfz27_10, hfz27_11, hfz27_12⟩ := blkf13 BK196.out; obtain ⟨Ao28, co28, eo28⟩ := Kd.R_slice HO182.out; subst eo28; obtain ⟨Ao29, co29, eo29⟩ := Kd.R_slice HO195.out; subst eo29) | ((with_reducible refine gate_callee (f := 8) rfl ?_); refine goesL_ (some 4) rfl rfl Try.func8 (by kernel_rfl) rfl #[.agg #[.slice Ao26 t177.length co26, .slice Ao28 t180.length co28, .int .i64 t183, .int .i64 t184, .int .i64 t185, .int .i64 t186, .int .i64 t187, .int .i64 t188, .int .i64 t189, .int .i64 t190, .int .i64 t191, .int .u64 t192, .slice Ao29 t193.length co29]] rfl (by (try simp only [List.map_toArray, List.map_cons, List.map_nil]); first | done | rfl | (simp only [List.length_drop, List.length_take]; rfl)) ?_; (with_reducible refine (conf_Check.calls k _ _ t177 _ _ t180 t183 t184 t185 t186 t187 t188 t189 t190 t191 t192 _ _ t193 t197 _ ?side1 ?side2 ?side3 ?side4 ?side5 ?side6 A2.out).mono ?_); (case side1 => refine (Kd.R_reads' (e := 46) (base := w.heap.size) (ok := fun k_ => True) (n := t177.length) (c := co26) ?_).2.2; exact ((Kd.R_mono (Kd.rfR (Kd.rfR (Kd.rfR (Kd.rfR (Kd.rfR (Kd.rfR (Kd.rfR (Kd.rfR (Kd.rfR (Kd.rfR (Kd.rfR (Kd.rfR (Kd.rfR (Kd.R_types HO179.out BK196.out (by decide))))))))))))))) (fun _ h_ => h_.1)))); (case side2 => exact (Kd.R_reads' HO179.out).2.1); (case side3 => refine (Kd.R_reads' (e := 48) (base := w.heap.size) (ok := fun k_ => True) (n := t180.length) (c := co28) ?_).2.2; exact ((Kd.R_mono (Kd.rfR (Kd.rfR (Kd.rfR (Kd.rfR (Kd.rfR (Kd.rfR (Kd.rfR (Kd.rfR (Kd.rfR (Kd.rfR (Kd.rfR (Kd.rfR (Kd.rfR (Kd.R_types HO182.out BK196.out (by decide))))))))))))))) (fun _ h_ => h_.1)))); (case side4 => exact (Kd.R_reads' HO182.out).2.1); (case side5 => refine (Kd.R_reads' (e := 50) (base := w.heap.size) (ok := fun k_ => True) (n := t193.length) (c := co29) ?_).2.2; exact ((Kd.R_mono (Kd.rfR (Kd.rfR (Kd.rfR (Kd.rfR (Kd.rfR (Kd.rfR (Kd.rfR (Kd.rfR (Kd.rfR (Kd.rfR (Kd.rfR (Kd.rfR (Kd.rfR (Kd.R_types HO195.out BK196.out (by decide))))))))))))))) (fun _ h_ => h_.1)))); (case side6 => exact (Kd.R_reads' HO195.out).2.1); rintro e w30 ⟨rfl, hb⟩; refine ⟨_, rfl, ?_⟩; replace HO179 := Aside0.mk (Kd.R_below ((Kd.R_mono (Kd.rfR (Kd.rfR (Kd.rfR (Kd.rfR (Kd.rfR (Kd.rfR (Kd.rfR (Kd.rfR (Kd.rfR (Kd.rfR (Kd.rfR (Kd.rfR (Kd.rfR (Kd.R_types HO179.out BK196.out (by decide))))))))))))))) (fun _ h_ => h_.1))) hb); replace HO182 := Aside0.mk (Kd.R_below ((Kd.R_mono (Kd.rfR (Kd.rfR (Kd.rfR (Kd.rfR (Kd.rfR (Kd.rfR (Kd.rfR (Kd.rfR (Kd.rfR (Kd.rfR (Kd.rfR (Kd.rfR (Kd.rfR (Kd.R_types HO182.out BK196.out (by decide))))))))))))))) (fun _ h_ => h_.1))) hb); replace HO195 := Aside0.mk (Kd.R_below ((Kd.R_mono (Kd.rfR (Kd.rfR (Kd.rfR (Kd.rfR (Kd.rfR (Kd.rfR (Kd.rfR (Kd.rfR (Kd.rfR (Kd.rfR (Kd.rfR (Kd.rfR (Kd.rfR (Kd.R_types HO195.out BK196.out (by decide))))))))))))))) (fun _ h_ => h_.1))) hb); replace BK196 := Aside0.mk (blk_below (g := gb196) (o := .cells #[.slice Ao26 t177.length co26, .slice Ao28 t180.length co28, .int .i64 t183, .int .i64 t184, .int .i64 t185, .int .i64 t186, .int .i64 t187, .int .i64 t188, .int .i64 t189, .int .i64 t190, .int .i64 t191, .int .u64 t192, .slice Ao29 t193.length co29] 27 (0, 0)) (by (with_reducible repeat (first | refine blk_drewN ?_ _ | refine blk_drew ?_ | refine blk_alloc ?_ _)); refine blk_put (cs := #[.slice Ao26 t177.length co26, .slice Ao28 t180.length co28, .int .i64 t183, .int .i64 t184, .int .i64 t185, .int .i64 t186, .int .i64 t187, .int .i64 t188, .int .i64 t189, .int .i64 t190, .int .i64 t191, .int .u64 t192, .slice none 0 0]) ?_ 12 _ rfl; (with_reducible repeat (first | refine blk_drewN ?_ _ | refine blk_drew ?_ | refine blk_alloc ?_ _)); refine blk_put (cs := #[.slice Ao26 t177.length co26, .slice Ao28 t180.length co28, .int .i64 t183, .int .i64 t184, .int .i64 t185, .int .i64 t186, .int .i64 t187, .int .i64 t188, .int .i64 t189, .int .i64 t190, .int .i64 t191, .int .u64 0, .slice none 0 0]) ?_ 11 _ rfl; (with_reducible repeat (first | refine blk_drewN ?_ _ | refine blk_drew ?_ | refine blk_alloc ?_ _)); refine blk_put (cs := #[.slice Ao26 t177.length co26, .slice Ao28 t180.length co28, .int .i64 t183, .int .i64 t184, .int .i64 t185, .int .i64 t186, .int .i64 t187, .int .i64 t188, .int .i64 t189, .int .i64 t190, .int .i64 0, .int .u64 0, .slice none 0 0]) ?_ 10 _ rfl; (with_reducible repeat (first | refine blk_drewN ?_ _ | refine blk_drew ?_ | refine blk_alloc ?_ _)); refine blk_put (cs := #[.slice Ao26 t177.length co26, .slice Ao28 t180.length co28, .int .i64 t183, .int .i64 t184, .int .i64 t185, .int .i64 t186, .int .i64 t187, .int .i64 t188, .int .i64 t189, .int .i64 0, .int .i64 0, .int .u64 0, .slice none 0 0]) ?_ 9 _ rfl; (with_reducible repeat (first | refine blk_drewN ?_ _ | refine blk_drew ?_ | refine blk_alloc ?_ _)); refine blk_put (cs := #[.slice Ao26 t177.length co26, .slice Ao28 t180.length co28, .int .i64 t183, .int .i64 t184, .int .i64 t185, .int .i64 t186, .int .i64 t187, .int .i64 t188, .int .i64 0, .int .i64 0, .int .i64 0, .int .u64 0, .slice none 0 0]) ?_ 8 _ rfl; (with_reducible repeat (first | refine blk_drewN ?_ _ | refine blk_drew ?_ | refine blk_alloc ?_ _)); refine blk_put (cs := #[.slice Ao26 t177.length co26, .slice Ao28 t180.length co28, .int .i64 t183, .int .i64 t184, .int .i64 t185, .int .i64 t186, .int .i64 t187, .int .i64 0, .int .i64 0, .int .i64 0, .int .i64 0, .int .u64 0, .slice none 0 0]) ?_ 7 _ rfl; (with_reducible repeat (first | refine blk_drewN ?_ _ | refine blk_drew ?_ | refine blk_alloc ?_ _)); refine blk_put (cs := #[.slice Ao26 t177.length co26, .slice Ao28 t180.length co28, .int .i64 t183, .int .i64 t184, .int .i64 t185, .int .i64 t186, .int .i64 0, .int .i64 0, .int .i64 0, .int .i64 0, .int .i64 0, .int .u64 0, .slice none 0 0]) ?_ 6 _ rfl; (with_reducible repeat (first | refine blk_drewN ?_ _ | refine blk_drew ?_ | refine blk_alloc ?_ _)); refine blk_put (cs := #[.slice Ao26 t177.length co26, .slice Ao28 t180.length co28, .int .i64 t183, .int .i64 t184, .int .i64 t185, .int .i64 0, .int .i64 0, .int .i64 0, .int .i64 0, .int .i64 0, .int .i64 0, .int .u64 0, .slice none 0 0]) ?_ 5 _ rfl; (with_reducible repeat (first | refine blk_drewN ?_ _ | refine blk_drew ?_ | refine blk_alloc ?_ _)); refine blk_put (cs := #[.slice Ao26 t177.length co26, .slice Ao28 t180.length co28, .int .i64 t183, .int .i64 t184, .int .i64 0, .int .i64 0, .int .i64 0, .int .i64 0, .int .i64 0, .int .i64 0, .int .i64 0, .int .u64 0, .slice none 0 0]) ?_ 4 _ rfl; (with_reducible repeat (first | refine blk_drewN ?_ _ | refine blk_drew ?_ | refine blk_alloc ?_ _)); refine blk_put (cs := #[.slice Ao26 t177.length co26, .slice Ao28 t180.length co28, .int .i64 t183, .int .i64 0, .int .i64 0, .int .i64 0, .int .i64 0, .int .i64 0, .int .i64 0, .int .i64 0, .int .i64 0, .int .u64 0, .slice none 0 0]) ?_ 3 _ rfl; (with_reducible repeat (first | refine blk_drewN ?_ _ | refine blk_drew ?_ | refine blk_alloc ?_ _)); refine blk_put (cs := #[.slice Ao26 t177.length co26, .slice Ao28 t180.length co28, .int .i64 0, .int .i64 0, .int .i64 0, .int .i64 0, .int .i64 0, .int .i64 0, .int .i64 0, .int .i64 0, .int .i64 0, .int .u64 0, .slice none 0 0]) ?_ 2 _ rfl; (with_reducible repeat (first | refine blk_drewN ?_ _ | refine blk_drew ?_ | refine blk_alloc ?_ _)); refine blk_put (cs := #[.slice Ao26 t177.length co26, .slice none 0 0, .int .i64 0, .int .i64 0, .int .i64 0, .int .i64 0, .int .i64 0, .int .i64 0, .int .i64 0, .int .i64 0, .int .i64 0, .int .u64 0, .slice none 0 0]) ?_ 1 _ rfl; (with_reducible repeat (first | refine blk_drewN ?_ _ | refine blk_drew ?_ | refine blk_alloc ?_ _)); refine blk_put (cs := #[.slice none 0 0, .slice none 0 0, .int .i64 0, .int .i64 0, .int .i64 0, .int .i64 0, .int .i64 0, .int .i64 0, .int .i64 0, .int .i64 0, .int .i64 0, .int .u64 0, .slice none 0 0]) ?_ 0 _ rfl; (with_reducible repeat (first | refine blk_drewN ?_ _ | refine blk_drew ?_ | refine blk_alloc ?_ _)); exact BK196.out) hb); replace HB := Aside0.mk (below_step (by repeat (first | (with_reducible first | exact HB.out | apply below_alloc | apply pw_below_drewN | apply below_drew1 | refine below_set ?_ GE196.out) | exact HB.out)) hb); (try clear hb); obtain ⟨hcz31_0, hcz31_1, hcz31_2, hcz31_3, hcz31_4, hcz31_5, hcz31_6, hcz31_7, hcz31_8, hcz31_9, hcz31_10, hcz31_11, hcz31_12⟩ := blkc13 BK196.out; obtain ⟨hfz31_0, hfz31_1, hfz31_2, hfz31_3, hfz31_4, hfz31_5, hfz31_6, hfz31_7, hfz31_8, hfz31_9, hfz31_10, hfz31_11, hfz31_12⟩ := blkf13 BK196.out))
   go_ret
   exact ⟨by first | rfl | (simp [errW_none, errW_some] <;> rfl) | (simp [*, errW_none, errW_some] <;> rfl), HB.out⟩
 ·
  rw [if_neg c3] at H
  have c3b0 : (t197 == 0) = false := beq_eq_false_iff_ne.mpr c3
  have c3b1 : (t197 != 0) = true := bne_iff_ne.mpr c3
  obtain rfl := Option.some.inj H
  go_enter Try.func7, Try.ntmps7
  go_wp2_with (first | ((with_reducible refine gate_callee (f := 13) rfl ?_); refine goesL_ (some 2) rfl rfl Try.func13 (by kernel_rfl) rfl #[] rfl (by (try simp only [List.map_toArray, List.map_cons, List.map_nil]); first | done | rfl | (simp only [List.length_drop, List.length_take]; rfl)) ?_; (with_reducible refine (conf_Usual.calls k  t177 t180 t183 t184 t185 t186 t187 t188 t189 t190 t191 t192 t193 _ A1.out).mono ?_); rintro e w32 ⟨v178, v181, v194, rfl, ho0, ho1, ho2, hb⟩; refine ⟨_, rfl, ?_⟩; have HO179 := Aside0.mk (Kd.R_lower ho0 (below_size (HB.out))); have HO182 := Aside0.mk (Kd.R_lower ho1 (below_size (HB.out))); have HO195 := Aside0.mk (Kd.R_lower ho2 (below_size (HB.out))); replace HB := Aside0.mk (below_step (HB.out) hb); (try clear hb); (try clear ho0); (try clear ho1); (try clear ho2)) | ((with_reducible refine gate_dst (N := 1) rfl ?_); (try (refine gate_guard (by rfl) ?_; dsimp only)); refine box_event ?hg (N := 1) ?hd (cs := #[.slice none 0 0, .slice none 0 0, .int .i64 0, .int .i64 0, .int .i64 0, .int .i64 0, .int .i64 0, .int .i64 0, .int .i64 0, .int .i64 0, .int .i64 0, .int .u64 0, .slice none 0 0]) (t := 27) ?hr ?_; (case hd => rfl); (case hg => rfl); (case hr => first | (go_simp; done) | (go_simp; rfl)); intro gb196 hg w33 hbox hb; replace HO179 := Aside0.mk (Kd.R_below (HO179.out) hb); replace HO182 := Aside0.mk (Kd.R_below (HO182.out) hb); replace HO195 := Aside0.mk (Kd.R_below (HO195.out) hb); have BK196 := Aside0.mk (hbox); have GW196 := Aside0.mk ((by rw [hg]; exact (below_size (HB.out)) : w.heap.size ≤ gb196)); have GE196 := Aside0.mk ((by rw [hg]; exact (below_size (HB.out)) : w.heap.size ≤ gb196)); replace HB := Aside0.mk (below_step (HB.out) hb); clear hb hbox hg; obtain ⟨Ao34, co34, eo34⟩ := Kd.R_slice HO179.out; subst eo34; obtain ⟨hcz35_0, hcz35_1, hcz35_2, hcz35_3, hcz35_4, hcz35_5, hcz35_6, hcz35_7, hcz35_8, hcz35_9, hcz35_10, hcz35_11, hcz35_12⟩ := blkc13 BK196.out; obtain ⟨hfz35_0, hfz35_1, hfz35_2, hfz35_3, hfz35_4, hfz35_5, hfz35_6, hfz35_7, hfz35_8, hfz35_9, hfz35_10, hfz35_11, hfz35_12⟩ := blkf13 BK196.out; obtain ⟨Ao36, co36, eo36⟩ := Kd.R_slice HO182.out; subst eo36; obtain ⟨Ao37, co37, eo37⟩ := Kd.R_slice HO195.out; subst eo37) | ((with_reducible refine gate_callee (f := 8) rfl ?_); refine goesL_ (some 4) rfl rfl Try.func8 (by kernel_rfl) rfl #[.agg #[.slice Ao34 t177.length co34, .slice Ao36 t180.length co36, .int .i64 t183, .int .i64 t184, .int .i64 t185, .int .i64 t186, .int .i64 t187, .int .i64 t188, .int .i64 t189, .int .i64 t190, .int .i64 t191, .int .u64 t192, .slice Ao37 t193.length co37]] rfl (by (try simp only [List.map_toArray, List.map_cons, List.map_nil]); first | done | rfl | (simp only [List.length_drop, List.length_take]; rfl)) ?_; (with_reducible refine (conf_Check.calls k _ _ t177 _ _ t180 t183 t184 t185 t186 t187 t188 t189 t190 t191 t192 _ _ t193 t197 _ ?side1 ?side2 ?side3 ?side4 ?side5 ?side6 A2.out).mono ?_); (case side1 => refine (Kd.R_reads' (e := 46) (base := w.heap.size) (ok := fun k_ => True) (n := t177.length) (c := co34) ?_).2.2; exact ((Kd.R_mono (Kd.rfR (Kd.rfR (Kd.rfR (Kd.rfR (Kd.rfR (Kd.rfR (Kd.rfR (Kd.rfR (Kd.rfR (Kd.rfR (Kd.rfR (Kd.rfR (Kd.rfR (Kd.R_types HO179.out BK196.out (by decide))))))))))))))) (fun _ h_ => h_.1)))); (case side2 => exact (Kd.R_reads' HO179.out).2.1); (case side3 => refine (Kd.R_reads' (e := 48) (base := w.heap.size) (ok := fun k_ => True) (n := t180.length) (c := co36) ?_).2.2; exact ((Kd.R_mono (Kd.rfR (Kd.rfR (Kd.rfR (Kd.rfR (Kd.rfR (Kd.rfR (Kd.rfR (Kd.rfR (Kd.rfR (Kd.rfR (Kd.rfR (Kd.rfR (Kd.rfR (Kd.R_types HO182.out BK196.out (by decide))))))))))))))) (fun _ h_ => h_.1)))); (case side4 => exact (Kd.R_reads' HO182.out).2.1); (case side5 => refine (Kd.R_reads' (e := 50) (base := w.heap.size) (ok := fun k_ => True) (n := t193.length) (c := co37) ?_).2.2; exact ((Kd.R_mono (Kd.rfR (Kd.rfR (Kd.rfR (Kd.rfR (Kd.rfR (Kd.rfR (Kd.rfR (Kd.rfR (Kd.rfR (Kd.rfR (Kd.rfR (Kd.rfR (Kd.rfR (Kd.R_types HO195.out BK196.out (by decide))))))))))))))) (fun _ h_ => h_.1)))); (case side6 => exact (Kd.R_reads' HO195.out).2.1); rintro e w38 ⟨rfl, hb⟩; refine ⟨_, rfl, ?_⟩; replace HO179 := Aside0.mk (Kd.R_below ((Kd.R_mono (Kd.rfR (Kd.rfR (Kd.rfR (Kd.rfR (Kd.rfR (Kd.rfR (Kd.rfR (Kd.rfR (Kd.rfR (Kd.rfR (Kd.rfR (Kd.rfR (Kd.rfR (Kd.R_types HO179.out BK196.out (by decide))))))))))))))) (fun _ h_ => h_.1))) hb); replace HO182 := Aside0.mk (Kd.R_below ((Kd.R_mono (Kd.rfR (Kd.rfR (Kd.rfR (Kd.rfR (Kd.rfR (Kd.rfR (Kd.rfR (Kd.rfR (Kd.rfR (Kd.rfR (Kd.rfR (Kd.rfR (Kd.rfR (Kd.R_types HO182.out BK196.out (by decide))))))))))))))) (fun _ h_ => h_.1))) hb); replace HO195 := Aside0.mk (Kd.R_below ((Kd.R_mono (Kd.rfR (Kd.rfR (Kd.rfR (Kd.rfR (Kd.rfR (Kd.rfR (Kd.rfR (Kd.rfR (Kd.rfR (Kd.rfR (Kd.rfR (Kd.rfR (Kd.rfR (Kd.R_types HO195.out BK196.out (by decide))))))))))))))) (fun _ h_ => h_.1))) hb); replace BK196 := Aside0.mk (blk_below (g := gb196) (o := .cells #[.slice Ao34 t177.length co34, .slice Ao36 t180.length co36, .int .i64 t183, .int .i64 t184, .int .i64 t185, .int .i64 t186, .int .i64 t187, .int .i64 t188, .int .i64 t189, .int .i64 t190, .int .i64 t191, .int .u64 t192, .slice Ao37 t193.length co37] 27 (0, 0)) (by (with_reducible repeat (first | refine blk_drewN ?_ _ | refine blk_drew ?_ | refine blk_alloc ?_ _)); refine blk_put (cs := #[.slice Ao34 t177.length co34, .slice Ao36 t180.length co36, .int .i64 t183, .int .i64 t184, .int .i64 t185, .int .i64 t186, .int .i64 t187, .int .i64 t188, .int .i64 t189, .int .i64 t190, .int .i64 t191, .int .u64 t192, .slice none 0 0]) ?_ 12 _ rfl; (with_reducible repeat (first | refine blk_drewN ?_ _ | refine blk_drew ?_ | refine blk_alloc ?_ _)); refine blk_put (cs := #[.slice Ao34 t177.length co34, .slice Ao36 t180.length co36, .int .i64 t183, .int .i64 t184, .int .i64 t185, .int .i64 t186, .int .i64 t187, .int .i64 t188, .int .i64 t189, .int .i64 t190, .int .i64 t191, .int .u64 0, .slice none 0 0]) ?_ 11 _ rfl; (with_reducible repeat (first | refine blk_drewN ?_ _ | refine blk_drew ?_ | refine blk_alloc ?_ _)); refine blk_put (cs := #[.slice Ao34 t177.length co34, .slice Ao36 t180.length co36, .int .i64 t183, .int .i64 t184, .int .i64 t185, .int .i64 t186, .int .i64 t187, .int .i64 t188, .int .i64 t189, .int .i64 t190, .int .i64 0, .int .u64 0, .slice none 0 0]) ?_ 10 _ rfl; (with_reducible repeat (first | refine blk_drewN ?_ _ | refine blk_drew ?_ | refine blk_alloc ?_ _)); refine blk_put (cs := #[.slice Ao34 t177.length co34, .slice Ao36 t180.length co36, .int .i64 t183, .int .i64 t184, .int .i64 t185, .int .i64 t186, .int .i64 t187, .int .i64 t188, .int .i64 t189, .int .i64 0, .int .i64 0, .int .u64 0, .slice none 0 0]) ?_ 9 _ rfl; (with_reducible repeat (first | refine blk_drewN ?_ _ | refine blk_drew ?_ | refine blk_alloc ?_ _)); refine blk_put (cs := #[.slice Ao34 t177.length co34, .slice Ao36 t180.length co36, .int .i64 t183, .int .i64 t184, .int .i64 t185, .int .i64 t186, .int .i64 t187, .int .i64 t188, .int .i64 0, .int .i64 0, .int .i64 0, .int .u64 0, .slice none 0 0]) ?_ 8 _ rfl; (with_reducible repeat (first | refine blk_drewN ?_ _ | refine blk_drew ?_ | refine blk_alloc ?_ _)); refine blk_put (cs := #[.slice Ao34 t177.length co34, .slice Ao36 t180.length co36, .int .i64 t183, .int .i64 t184, .int .i64 t185, .int .i64 t186, .int .i64 t187, .int .i64 0, .int .i64 0, .int .i64 0, .int .i64 0, .int .u64 0, .slice none 0 0]) ?_ 7 _ rfl; (with_reducible repeat (first | refine blk_drewN ?_ _ | refine blk_drew ?_ | refine blk_alloc ?_ _)); refine blk_put (cs := #[.slice Ao34 t177.length co34, .slice Ao36 t180.length co36, .int .i64 t183, .int .i64 t184, .int .i64 t185, .int .i64 t186, .int .i64 0, .int .i64 0, .int .i64 0, .int .i64 0, .int .i64 0, .int .u64 0, .slice none 0 0]) ?_ 6 _ rfl; (with_reducible repeat (first | refine blk_drewN ?_ _ | refine blk_drew ?_ | refine blk_alloc ?_ _)); refine blk_put (cs := #[.slice Ao34 t177.length co34, .slice Ao36 t180.length co36, .int .i64 t183, .int .i64 t184, .int .i64 t185, .int .i64 0, .int .i64 0, .int .i64 0, .int .i64 0, .int .i64 0, .int .i64 0, .int .u64 0, .slice none 0 0]) ?_ 5 _ rfl; (with_reducible repeat (first | refine blk_drewN ?_ _ | refine blk_drew ?_ | refine blk_alloc ?_ _)); refine blk_put (cs := #[.slice Ao34 t177.length co34, .slice Ao36 t180.length co36, .int .i64 t183, .int .i64 t184, .int .i64 0, .int .i64 0, .int .i64 0, .int .i64 0, .int .i64 0, .int .i64 0, .int .i64 0, .int .u64 0, .slice none 0 0]) ?_ 4 _ rfl; (with_reducible repeat (first | refine blk_drewN ?_ _ | refine blk_drew ?_ | refine blk_alloc ?_ _)); refine blk_put (cs := #[.slice Ao34 t177.length co34, .slice Ao36 t180.length co36, .int .i64 t183, .int .i64 0, .int .i64 0, .int .i64 0, .int .i64 0, .int .i64 0, .int .i64 0, .int .i64 0, .int .i64 0, .int .u64 0, .slice none 0 0]) ?_ 3 _ rfl; (with_reducible repeat (first | refine blk_drewN ?_ _ | refine blk_drew ?_ | refine blk_alloc ?_ _)); refine blk_put (cs := #[.slice Ao34 t177.length co34, .slice Ao36 t180.length co36, .int .i64 0, .int .i64 0, .int .i64 0, .int .i64 0, .int .i64 0, .int .i64 0, .int .i64 0, .int .i64 0, .int .i64 0, .int .u64 0, .slice none 0 0]) ?_ 2 _ rfl; (with_reducible repeat (first | refine blk_drewN ?_ _ | refine blk_drew ?_ | refine blk_alloc ?_ _)); refine blk_put (cs := #[.slice Ao34 t177.length co34, .slice none 0 0, .int .i64 0, .int .i64 0, .int .i64 0, .int .i64 0, .int .i64 0, .int .i64 0, .int .i64 0, .int .i64 0, .int .i64 0, .int .u64 0, .slice none 0 0]) ?_ 1 _ rfl; (with_reducible repeat (first | refine blk_drewN ?_ _ | refine blk_drew ?_ | refine blk_alloc ?_ _)); refine blk_put (cs := #[.slice none 0 0, .slice none 0 0, .int .i64 0, .int .i64 0, .int .i64 0, .int .i64 0, .int .i64 0, .int .i64 0, .int .i64 0, .int .i64 0, .int .i64 0, .int .u64 0, .slice none 0 0]) ?_ 0 _ rfl; (with_reducible repeat (first | refine blk_drewN ?_ _ | refine blk_drew ?_ | refine blk_alloc ?_ _)); exact BK196.out) hb); replace HB := Aside0.mk (below_step (by repeat (first | (with_reducible first | exact HB.out | apply below_alloc | apply pw_below_drewN | apply below_drew1 | refine below_set ?_ GE196.out) | exact HB.out)) hb); (try clear hb); (try clear hi)))
  go_ret
  exact ⟨by first | rfl | (simp [errW_none, errW_some] <;> rfl) | (simp [*, errW_none, errW_some] <;> rfl), HB.out⟩
end Go.Proofs.Ytjlbgopgeepiaaa.PConf
set_option linter.unusedVariables false
namespace Go.Proofs.Ytjlbgopgeepiaaa.LemAwakeConf
open Go.RowKit Go.Proofs.Ytjlbgopgeepiaaa.PConf Go.Proofs.YtjlbgopgeepiaaaW.PrintWords Go.Proofs.YtjlbgopgeepiaaaW.PrintLast Go.Proofs.YtjlbgopgeepiaaaW.PrintMore
theorem awake_20 : busbarlaw15_awake.f 20 = some true := by decide +kernel
theorem awake_ev {k : Nat} (h : 20 ≤ k) : busbarlaw15_awake.f k = some true := at_rounds busbarlaw15_awake.mono h awake_20
end Go.Proofs.Ytjlbgopgeepiaaa.LemAwakeConf
set_option linter.unusedVariables false
set_option linter.unusedSimpArgs false
namespace Go.Proofs.Ytjlbgopgeepiaaa.Conf
open Go.RowKit Go.Proofs.Ytjlbgopgeepiaaa.PConf Go.Proofs.YtjlbgopgeepiaaaW.PrintWords Go.Proofs.YtjlbgopgeepiaaaW.PrintLast Go.Proofs.YtjlbgopgeepiaaaW.PrintMore Go.Proofs.Ytjlbgopgeepiaaa.Num Go.Proofs.Ytjlbgopgeepiaaa.LemWithinConf Go.Proofs.Ytjlbgopgeepiaaa.LemDigitConf Go.Proofs.Ytjlbgopgeepiaaa.LemSpanConf Go.Proofs.Ytjlbgopgeepiaaa.LemCheckConf Go.Proofs.Ytjlbgopgeepiaaa.LemGroupConf Go.Proofs.Ytjlbgopgeepiaaa.LemGChkConf Go.Proofs.Ytjlbgopgeepiaaa.LemIdenConf Go.Proofs.Ytjlbgopgeepiaaa.LemConfConf Go.Proofs.YtjlbgopgeepiaaaW.PrintMore Go.Proofs.Ytjlbgopgeepiaaa.LemWithinConf
attribute [local go_sem] plus_setCell_drewN plus_cell_same
theorem within_calls (a n : Int) (hn : 0 < n) (hn2 : n < 4611686018427387904) (w : World) : Calls Try.prog 12 #[.int .i64 a, .int .i64 n] w fun e w' => e = .returned (.int .i64 (a % n)) ∧ ∃ nd, w' = w.drewN nd := by
  refine (busbarlaw0_Within.calls a n (a % n) w (within_eq a n hn hn2)).mono ?_
  rintro e w1 ⟨rfl, hd⟩
  exact ⟨rfl, hd.out⟩
theorem within_b (a n : Int) (hn : 0 < n) (hn2 : n < 4611686018427387904) (w : World) : Calls Try.prog 12 #[.int .i64 a, .int .i64 n] w fun e w' => e = .returned (.int .i64 (a % n)) ∧ Below w.heap.size w w' := by
  refine (within_calls a n hn hn2 w).mono ?_
  rintro e w1 ⟨rfl, nd, rfl⟩
  exact ⟨rfl, pw_below_drewN (Below.refl _ _) nd⟩
def umap : List S46 := [(⟨0, 0, 1000⟩ : S46), (⟨1, 0, 1000⟩ : S46), (⟨2, 0, 1000⟩ : S46), (⟨3, 0, 1000⟩ : S46)]
theorem usual_20 : conf_Usual.f 20 = some (umap, [], 60000, 100, 32, 8, 10000, 100, 500, 1024, 1024, 0, uobj) := by kernel_rfl
theorem blkc13 {w : World} {g : Nat} {t : TypeId} {v0 v1 v2 v3 v4 v5 v6 v7 v8 v9 v10 v11 v12 : Value} (h : w.heap[g]? = some (.cells #[v0, v1, v2, v3, v4, v5, v6, v7, v8, v9, v10, v11, v12] t (0, 0))) : w.cell? ⟨g, 0, none⟩ = some v0 ∧ w.cell? ⟨g, 1, none⟩ = some v1 ∧ w.cell? ⟨g, 2, none⟩ = some v2 ∧ w.cell? ⟨g, 3, none⟩ = some v3 ∧ w.cell? ⟨g, 4, none⟩ = some v4 ∧ w.cell? ⟨g, 5, none⟩ = some v5 ∧ w.cell? ⟨g, 6, none⟩ = some v6 ∧ w.cell? ⟨g, 7, none⟩ = some v7 ∧ w.cell? ⟨g, 8, none⟩ = some v8 ∧ w.cell? ⟨g, 9, none⟩ = some v9 ∧ w.cell? ⟨g, 10, none⟩ = some v10 ∧ w.cell? ⟨g, 11, none⟩ = some v11 ∧ w.cell? ⟨g, 12, none⟩ = some v12 := ⟨blk_cell h 0, blk_cell h 1, blk_cell h 2, blk_cell h 3, blk_cell h 4, blk_cell h 5, blk_cell h 6, blk_cell h 7, blk_cell h 8, blk_cell h 9, blk_cell h 10, blk_cell h 11, blk_cell h 12⟩
end Go.Proofs.Ytjlbgopgeepiaaa.Conf
set_option linter.unusedVariables false
set_option linter.unusedSimpArgs false
namespace Go.Proofs.Ytjlbgopgeepiaaa.Conf
open Go.RowKit Go.Proofs.Ytjlbgopgeepiaaa.PConf Go.Proofs.YtjlbgopgeepiaaaW.PrintWords Go.Proofs.YtjlbgopgeepiaaaW.PrintLast Go.Proofs.YtjlbgopgeepiaaaW.PrintMore Go.Proofs.Ytjlbgopgeepiaaa.Num Go.Proofs.Ytjlbgopgeepiaaa.LemConfConf
def CC (C0 C2 G : Option Addr) (e0 e2 ge : Nat) (gl : List S48) (a3 a4 a5 a6 a7 a8 a11 : Int) : Array Value := cf (.slice C0 cmap.length e0) (.slice G gl.length ge) (.slice C2 uobj.length e2) 100 a3 a4 a5 a6 a7 a8 1024 1024 a11
structure St (w w2 : World) (gc : Nat) (C0 C2 G D0 E D2 : Option Addr) (e0 e2 ge f0 fe f2 : Nat) (gl : List S48) (a3 a4 a5 a6 a7 a8 a11 : Int) (W : World) : Prop where
  b0 : Below w.heap.size w w2
  b2 : Below w2.heap.size w2 W
  le : w2.heap.size ≤ gc
  c0 : Kd.C k46 w2 C0 cmap.length cmap ∧ cmap.length ≤ e0
  c2 : Kd.C k50 w2 C2 uobj.length uobj ∧ uobj.length ≤ e2
  xc : W.heap[gc]? = some (.cells (CC C0 C2 G e0 e2 ge gl a3 a4 a5 a6 a7 a8 a11) 27 (0, 0))
  xd : W.heap[gc + 1]? = some (.cells (CC D0 D2 E f0 f2 fe gl a3 a4 a5 a6 a7 a8 a11) 27 (0, 0))
  og : Kd.R k48 48 W 0 (fun k => True ∧ some k ≠ (Value.slice E gl.length fe).ownBlock) (.slice G gl.length ge) gl
  oe : Kd.R k48 48 W w2.heap.size (fun _ => True) (.slice E gl.length fe) gl
  d0 : Kd.R k46 46 W w2.heap.size (fun _ => True) (.slice D0 cmap.length f0) cmap
  d2 : Kd.R k50 50 W w2.heap.size (fun _ => True) (.slice D2 uobj.length f2) uobj
  gl : gl.length ≤ 24
def Fin (w w2 : World) (gc : Nat) (C0 C2 G : Option Addr) (e0 e2 ge : Nat) (gl : List S48) (a3 a4 a5 a6 a7 a8 a11 : Int) (wc : World) : Prop :=
  ∃ (B0 B1 B2 : Option Addr) (d0 d1 d2 : Nat) (m0 : List S46) (m1 : List S48) (m2 : List S50) (y2 y3 y4 y5 y6 y7 y8 y9 y10 y11 : Int),
    wc.heap[gc]? = some (.cells (CC C0 C2 G e0 e2 ge gl a3 a4 a5 a6 a7 a8 a11) 27 (0, 0)) ∧ wc.heap[gc + 1]? = some (.cells (cf (.slice B0 m0.length d0) (.slice B1 m1.length d1) (.slice B2 m2.length d2) y2 y3 y4 y5 y6 y7 y8 y9 y10 y11) 27 (0, 0)) ∧
    Rws wc C0 G C2 e0 ge e2 cmap gl uobj ∧ Rws wc B0 B1 B2 d0 d1 d2 m0 m1 m2 ∧ (m0.length ≤ 1000 ∧ m1.length ≤ 1000 ∧ m2.length ≤ 1000) ∧
    ¬ ((100 = y2 ∧ a3 = y3 ∧ a4 = y4 ∧ a5 = y5 ∧ a6 = y6 ∧ a7 = y7 ∧ a8 = y8 ∧ 1024 = y9 ∧ 1024 = y10 ∧ a11 = y11) ∧ cmap = m0 ∧ gl = m1 ∧ uobj = m2) ∧ Below w.heap.size w wc
theorem row46 {w : World} {b : Nat} {ok : Nat → Prop} {A : Option Addr} {c n : Nat} {l : List S46} (h : Kd.R k46 46 w b ok (.slice A n c) l) : n = l.length ∧ (Kd.C k46 w A l.length l ∧ l.length ≤ c) := by
  obtain ⟨h1, h2, h3⟩ := Kd.R_reads' h
  exact ⟨h1, h3, by omega⟩
theorem row48 {w : World} {b : Nat} {ok : Nat → Prop} {A : Option Addr} {c n : Nat} {l : List S48} (h : Kd.R k48 48 w b ok (.slice A n c) l) : n = l.length ∧ (Kd.C k48 w A l.length l ∧ l.length ≤ c) := by
  obtain ⟨h1, h2, h3⟩ := Kd.R_reads' h
  exact ⟨h1, h3, by omega⟩
theorem row50 {w : World} {b : Nat} {ok : Nat → Prop} {A : Option Addr} {c n : Nat} {l : List S50} (h : Kd.R k50 50 w b ok (.slice A n c) l) : n = l.length ∧ (Kd.C k50 w A l.length l ∧ l.length ≤ c) := by
  obtain ⟨h1, h2, h3⟩ := Kd.R_reads' h
  exact ⟨h1, h3, by omega⟩
theorem t46 : ∀ q, q ∈ 46 :: k46.E → q ≠ 27 := by decide
theorem t48 : ∀ q, q ∈ 48 :: k48.E → q ≠ 27 := by decide
theorem t50 : ∀ q, q ∈ 50 :: k50.E → q ≠ 27 := by decide
section
variable {w w2 : World} {gc : Nat} {C0 C2 G D0 E D2 : Option Addr} {e0 e2 ge f0 fe f2 : Nat} {gl : List S48} {a3 a4 a5 a6 a7 a8 a11 : Int} {W W1 : World}
theorem St.below (h : St w w2 gc C0 C2 G D0 E D2 e0 e2 ge f0 fe f2 gl a3 a4 a5 a6 a7 a8 a11 W) (hb : Below W.heap.size W W1) : St w w2 gc C0 C2 G D0 E D2 e0 e2 ge f0 fe f2 gl a3 a4 a5 a6 a7 a8 a11 W1 :=
  ⟨h.b0, below_then h.b2 h.b2.size hb, h.le, h.c0, h.c2, blk_below h.xc hb, blk_below h.xd hb, Kd.R_below h.og hb, Kd.R_below h.oe hb, Kd.R_below h.d0 hb, Kd.R_below h.d2 hb, h.gl⟩
theorem St.make {W5 W6 : World} {C1 D1 : Value} {bg : Nat} (b0 : Below w.heap.size w w2) (b2 : Below w2.heap.size w2 W5) (le : w2.heap.size ≤ gc) (c0 : Kd.C k46 w2 C0 cmap.length cmap ∧ cmap.length ≤ e0) (c2 : Kd.C k50 w2 C2 uobj.length uobj ∧ uobj.length ≤ e2)
    (xc : W6.heap[gc]? = some (.cells (cf (.slice C0 cmap.length e0) C1 (.slice C2 uobj.length e2) 100 a3 a4 a5 a6 a7 a8 1024 1024 a11) 27 (0, 0))) (xd : W6.heap[gc + 1]? = some (.cells (cf (.slice D0 cmap.length f0) D1 (.slice D2 uobj.length f2) 100 a3 a4 a5 a6 a7 a8 1024 1024 a11) 27 (0, 0)))
    (og : Kd.R k48 48 W5 bg (fun _ => True) (.slice G gl.length ge) gl) (oe : Kd.R k48 48 W6 W5.heap.size (fun _ => True) (.slice E gl.length fe) gl) (hb : Below W5.heap.size W5 W6)
    (d0 : Kd.R k46 46 W5 w2.heap.size (fun _ => True) (.slice D0 cmap.length f0) cmap) (d2 : Kd.R k50 50 W5 w2.heap.size (fun _ => True) (.slice D2 uobj.length f2) uobj) (hgl : gl.length ≤ 24) :
    St w w2 gc C0 C2 G D0 E D2 e0 e2 ge f0 fe f2 gl a3 a4 a5 a6 a7 a8 a11 ((W6.setCell ⟨gc, 1, none⟩ (.slice G gl.length ge)).setCell ⟨gc + 1, 1, none⟩ (.slice E gl.length fe)) := by
  have b6 := below_then b2 b2.size hb
  have xd1 := blk_far xd (p := ⟨gc, 1, none⟩) (by show gc + 1 ≠ gc; omega) (.slice G gl.length ge)
  refine ⟨b0, (b6.setCell (show w2.heap.size ≤ gc from le) _).setCell (show w2.heap.size ≤ gc + 1 by omega) _, le, c0, c2, blk_far (blk_set xc 1 _) (p := ⟨gc + 1, 1, none⟩) (by show gc ≠ gc + 1; omega) _, blk_set xd1 1 _,
    Kd.R_set (Kd.R_set (Kd.R_lower (Kd.R_elder og oe hb) (Nat.zero_le _)) xc t48 _ _) xd1 t48 _ _, Kd.R_set (Kd.R_set (Kd.R_lower oe b2.size) xc t48 _ _) xd1 t48 _ _, Kd.R_set (Kd.R_set (Kd.R_below d0 hb) xc t46 _ _) xd1 t46 _ _, Kd.R_set (Kd.R_set (Kd.R_below d2 hb) xc t50 _ _) xd1 t50 _ _, hgl⟩
theorem St.rc (h : St w w2 gc C0 C2 G D0 E D2 e0 e2 ge f0 fe f2 gl a3 a4 a5 a6 a7 a8 a11 W) : Rws W C0 G C2 e0 ge e2 cmap gl uobj := ⟨⟨Kd.C_below h.c0.1 h.b2, h.c0.2⟩, (row48 h.og).2, ⟨Kd.C_below h.c2.1 h.b2, h.c2.2⟩⟩
theorem St.rd (h : St w w2 gc C0 C2 G D0 E D2 e0 e2 ge f0 fe f2 gl a3 a4 a5 a6 a7 a8 a11 W) : Rws W D0 E D2 f0 fe f2 cmap gl uobj := ⟨(row46 h.d0).2, (row48 h.oe).2, (row50 h.d2).2⟩
theorem box_below (h : Below w2.heap.size w2 W) (hle : w2.heap.size ≤ gc) (j : Nat) (v : Value) : Below w2.heap.size w2 (W.setCell ⟨gc + 1, j, none⟩ v) := h.setCell (show w2.heap.size ≤ gc + 1 by omega) _
theorem St.num (h : St w w2 gc C0 C2 G D0 E D2 e0 e2 ge f0 fe f2 gl a3 a4 a5 a6 a7 a8 a11 W) (j : Nat) (v : Value) (y2 y3 y4 y5 y6 y7 y8 y9 y10 y11 : Int) (hcf : (CC D0 D2 E f0 f2 fe gl a3 a4 a5 a6 a7 a8 a11).setIfInBounds j v = cf (.slice D0 cmap.length f0) (.slice E gl.length fe) (.slice D2 uobj.length f2) y2 y3 y4 y5 y6 y7 y8 y9 y10 y11)
    (hne : ¬ (100 = y2 ∧ a3 = y3 ∧ a4 = y4 ∧ a5 = y5 ∧ a6 = y6 ∧ a7 = y7 ∧ a8 = y8 ∧ 1024 = y9 ∧ 1024 = y10 ∧ a11 = y11)) : Fin w w2 gc C0 C2 G e0 e2 ge gl a3 a4 a5 a6 a7 a8 a11 (W.setCell ⟨gc + 1, j, none⟩ v) := by
  have hb := box_below h.b2 h.le j v
  have hx := blk_set h.xd j v
  rw [hcf] at hx
  refine ⟨D0, E, D2, f0, fe, f2, cmap, gl, uobj, y2, y3, y4, y5, y6, y7, y8, y9, y10, y11, blk_far h.xc (p := ⟨gc + 1, j, none⟩) (by show gc ≠ gc + 1; omega) v, hx,
    ⟨⟨Kd.C_below h.c0.1 hb, h.c0.2⟩, (row48 (Kd.R_set h.og h.xd t48 j v)).2, ⟨Kd.C_below h.c2.1 hb, h.c2.2⟩⟩, ⟨(row46 (Kd.R_set h.d0 h.xd t46 j v)).2, (row48 (Kd.R_set h.oe h.xd t48 j v)).2, (row50 (Kd.R_set h.d2 h.xd t50 j v)).2⟩,
    ⟨by decide, by have := h.gl; omega, by decide⟩, fun hn => hne hn.1, below_then h.b0 h.b0.size hb⟩
theorem St.map (h : St w w2 gc C0 C2 G D0 E D2 e0 e2 ge f0 fe f2 gl a3 a4 a5 a6 a7 a8 a11 W) (v1 : Value) (p : S46) (ho : Kd.R k46 46 W1 w2.heap.size (fun _ => True) v1 (cmap ++ [p])) (hb : Below w2.heap.size w2 W1) (hg : W.grownBy W1 (Value.slice D0 cmap.length f0).ownBlock) : Fin w w2 gc C0 C2 G e0 e2 ge gl a3 a4 a5 a6 a7 a8 a11 (W1.setCell ⟨gc + 1, 0, none⟩ v1) := by
  obtain ⟨B0, d0, rfl⟩ := Kd.R_slice ho
  have xc := (hg.block gc (blk_lt h.xc) (Kd.R_ne h.d0 h.xc (by decide))).trans h.xc
  have xd := (hg.block (gc + 1) (blk_lt h.xd) (Kd.R_ne h.d0 h.xd (by decide))).trans h.xd
  have og := Kd.R_over h.og h.d0 (by decide) hg
  have oe := Kd.R_over h.oe h.d0 (by decide) hg
  have d2 := Kd.R_over h.d2 h.d0 (by decide) hg
  have hb2 := box_below hb h.le 0 (.slice B0 (cmap ++ [p]).length d0)
  refine ⟨B0, E, D2, d0, fe, f2, cmap ++ [p], gl, uobj, 100, a3, a4, a5, a6, a7, a8, 1024, 1024, a11, blk_far xc (p := ⟨gc + 1, 0, none⟩) (by show gc ≠ gc + 1; omega) _, blk_set xd 0 _,
    ⟨⟨Kd.C_below h.c0.1 hb2, h.c0.2⟩, (row48 (Kd.R_set og xd t48 _ _)).2, ⟨Kd.C_below h.c2.1 hb2, h.c2.2⟩⟩, ⟨(row46 (Kd.R_set ho xd t46 _ _)).2, (row48 (Kd.R_set oe xd t48 _ _)).2, (row50 (Kd.R_set d2 xd t50 _ _)).2⟩,
    ⟨by simp [cmap], by have := h.gl; omega, by decide⟩, fun hn => ?_, below_then h.b0 h.b0.size hb2⟩
  have := congrArg List.length hn.2.1
  simp at this
theorem St.grp (h : St w w2 gc C0 C2 G D0 E D2 e0 e2 ge f0 fe f2 gl a3 a4 a5 a6 a7 a8 a11 W) (v1 : Value) (p : S48) (ho : Kd.R k48 48 W1 w2.heap.size (fun _ => True) v1 (gl ++ [p])) (hb : Below w2.heap.size w2 W1) (hg : W.grownBy W1 (Value.slice E gl.length fe).ownBlock) : Fin w w2 gc C0 C2 G e0 e2 ge gl a3 a4 a5 a6 a7 a8 a11 (W1.setCell ⟨gc + 1, 1, none⟩ v1) := by
  obtain ⟨B0, d0, rfl⟩ := Kd.R_slice ho
  have xc := (hg.block gc (blk_lt h.xc) (Kd.R_ne h.oe h.xc (by decide))).trans h.xc
  have xd := (hg.block (gc + 1) (blk_lt h.xd) (Kd.R_ne h.oe h.xd (by decide))).trans h.xd
  have og := Kd.R_grown h.og hg (fun k hk => hk.2)
  have c0 := Kd.R_over h.d0 h.oe (by decide) hg
  have d2 := Kd.R_over h.d2 h.oe (by decide) hg
  have hb2 := box_below hb h.le 1 (.slice B0 (gl ++ [p]).length d0)
  refine ⟨D0, B0, D2, f0, d0, f2, cmap, gl ++ [p], uobj, 100, a3, a4, a5, a6, a7, a8, 1024, 1024, a11, blk_far xc (p := ⟨gc + 1, 1, none⟩) (by show gc ≠ gc + 1; omega) _, blk_set xd 1 _,
    ⟨⟨Kd.C_below h.c0.1 hb2, h.c0.2⟩, (row48 (Kd.R_set og xd t48 _ _)).2, ⟨Kd.C_below h.c2.1 hb2, h.c2.2⟩⟩, ⟨(row46 (Kd.R_set c0 xd t46 _ _)).2, (row48 (Kd.R_set ho xd t48 _ _)).2, (row50 (Kd.R_set d2 xd t50 _ _)).2⟩,
    ⟨by decide, by have := h.gl; simp; omega, by decide⟩, fun hn => ?_, below_then h.b0 h.b0.size hb2⟩
  have := congrArg List.length hn.2.2.1
  simp at this
theorem St.obj (h : St w w2 gc C0 C2 G D0 E D2 e0 e2 ge f0 fe f2 gl a3 a4 a5 a6 a7 a8 a11 W) (v1 : Value) (p : S50) (ho : Kd.R k50 50 W1 w2.heap.size (fun _ => True) v1 (uobj ++ [p])) (hb : Below w2.heap.size w2 W1) (hg : W.grownBy W1 (Value.slice D2 uobj.length f2).ownBlock) : Fin w w2 gc C0 C2 G e0 e2 ge gl a3 a4 a5 a6 a7 a8 a11 (W1.setCell ⟨gc + 1, 12, none⟩ v1) := by
  obtain ⟨B0, d0, rfl⟩ := Kd.R_slice ho
  have xc := (hg.block gc (blk_lt h.xc) (Kd.R_ne h.d2 h.xc (by decide))).trans h.xc
  have xd := (hg.block (gc + 1) (blk_lt h.xd) (Kd.R_ne h.d2 h.xd (by decide))).trans h.xd
  have og := Kd.R_over h.og h.d2 (by decide) hg
  have oe := Kd.R_over h.oe h.d2 (by decide) hg
  have c0 := Kd.R_over h.d0 h.d2 (by decide) hg
  have hb2 := box_below hb h.le 12 (.slice B0 (uobj ++ [p]).length d0)
  refine ⟨D0, E, B0, f0, fe, d0, cmap, gl, uobj ++ [p], 100, a3, a4, a5, a6, a7, a8, 1024, 1024, a11, blk_far xc (p := ⟨gc + 1, 12, none⟩) (by show gc ≠ gc + 1; omega) _, blk_set xd 12 _,
    ⟨⟨Kd.C_below h.c0.1 hb2, h.c0.2⟩, (row48 (Kd.R_set og xd t48 _ _)).2, ⟨Kd.C_below h.c2.1 hb2, h.c2.2⟩⟩, ⟨(row46 (Kd.R_set c0 xd t46 _ _)).2, (row48 (Kd.R_set oe xd t48 _ _)).2, (row50 (Kd.R_set ho xd t50 _ _)).2⟩,
    ⟨by decide, by have := h.gl; omega, by simp [uobj]⟩, fun hn => ?_, below_then h.b0 h.b0.size hb2⟩
  have := congrArg List.length hn.2.2.2
  simp at this
theorem St.elem (h : St w w2 gc C0 C2 G D0 E D2 e0 e2 ge f0 fe f2 gl a3 a4 a5 a6 a7 a8 a11 W) (m : List S46) (hm : m.length = cmap.length) (hne : cmap ≠ m) (ho : Kd.R k46 46 W1 w2.heap.size (fun _ => True) (.slice D0 cmap.length f0) m) (hb : Below w2.heap.size w2 W1) (hg : W.grownBy W1 (Value.slice D0 cmap.length f0).ownBlock) : Fin w w2 gc C0 C2 G e0 e2 ge gl a3 a4 a5 a6 a7 a8 a11 W1 := by
  have xc := (hg.block gc (blk_lt h.xc) (Kd.R_ne h.d0 h.xc (by decide))).trans h.xc
  have xd := (hg.block (gc + 1) (blk_lt h.xd) (Kd.R_ne h.d0 h.xd (by decide))).trans h.xd
  have og := Kd.R_over h.og h.d0 (by decide) hg
  have oe := Kd.R_over h.oe h.d0 (by decide) hg
  have d2 := Kd.R_over h.d2 h.d0 (by decide) hg
  refine ⟨D0, E, D2, f0, fe, f2, m, gl, uobj, 100, a3, a4, a5, a6, a7, a8, 1024, 1024, a11, xc, by rw [hm]; exact xd,
    ⟨⟨Kd.C_below h.c0.1 hb, h.c0.2⟩, (row48 og).2, ⟨Kd.C_below h.c2.1 hb, h.c2.2⟩⟩, ⟨(row46 ho).2, (row48 oe).2, (row50 d2).2⟩,
    ⟨by rw [hm]; decide, by have := h.gl; omega, by decide⟩, fun hn => hne hn.2.1, below_then h.b0 h.b0.size hb⟩
theorem Fin.below (h : Fin w w2 gc C0 C2 G e0 e2 ge gl a3 a4 a5 a6 a7 a8 a11 W) (hb : Below W.heap.size W W1) : Fin w w2 gc C0 C2 G e0 e2 ge gl a3 a4 a5 a6 a7 a8 a11 W1 := by
  obtain ⟨B0, B1, B2, d0, d1, d2, m0, m1, m2, y2, y3, y4, y5, y6, y7, y8, y9, y10, y11, xc, xd, rc, rd, hl, hn, h0⟩ := h
  exact ⟨B0, B1, B2, d0, d1, d2, m0, m1, m2, y2, y3, y4, y5, y6, y7, y8, y9, y10, y11, blk_below xc hb, blk_below xd hb, rc.below hb, rd.below hb, hl, hn, below_then h0 h0.size hb⟩
end
theorem w_ne (a n : Int) (h : 1 ≤ n ∧ n ≤ 1000) : ¬ a = wrap64 (a + n) := by unfold wrap64; omega
theorem u_ne (a n : Int) (h : 1 ≤ n ∧ n ≤ 1000) : ¬ a = IntKind.u64.wrap (a + IntKind.u64.wrap n) := by
  have e : (2 : Int) ^ 64 = 18446744073709551616 := by decide
  simp only [IntKind.wrap, IntKind.bits, IntKind.signed, Bool.false_and, Bool.false_eq_true, if_false, e]
  omega
theorem elem46 {W : World} {b g n cap : Nat} {l : List S46} (h : Kd.R k46 46 W b (fun _ => True) (.slice (some ⟨g, 0, none⟩) n cap) l) (i : Int) (h0 : 0 ≤ i) (h1 : i < n) (x : Int) : W.cell? ⟨g, i.toNat * 3 + 1, none⟩ = some (.int .i64 (rd_T46 l i).f1) ∧ W.frozen? ⟨g, i.toNat * 3 + 1, none⟩ = false ∧
    Kd.R k46 46 (W.setCell ⟨g, i.toNat * 3 + 1, none⟩ (.int .i64 x)) b (fun _ => True) (.slice (some ⟨g, 0, none⟩) n cap) (l.set i.toNat ⟨(rd_T46 l i).f0, x, (rd_T46 l i).f2⟩) ∧ W.grownBy (W.setCell ⟨g, i.toNat * 3 + 1, none⟩ (.int .i64 x)) (some g) := by
  obtain ⟨c, hcl, hM, hcc, hz⟩ := Kd.R_elem h z46 i h0 h1
  have hc := k46_openM hM
  have e : l.getD i.toNat z46 = rd_T46 l i := rfl
  rw [e] at hc
  subst hc
  obtain ⟨h2, h3⟩ := Kd.R_seg (okp := fun _ => False) h i h0 h1 (c := [.int .i64 (rd_T46 l i).f0, .int .i64 (rd_T46 l i).f1, .int .i64 (rd_T46 l i).f2]) (seg := [.int .i64 x]) (j := 1) hcl hcc (show 1 + 1 ≤ 3 by omega) (x' := ⟨(rd_T46 l i).f0, x, (rd_T46 l i).f2⟩) (k46_mkM _ _ _ _) (fun _ h => h.elim)
  exact ⟨hcc 1 _ rfl, hz 1, h2, h3⟩
theorem St.at {w w2 : World} {gc g : Nat} {C0 C2 G E D2 : Option Addr} {e0 e2 ge f0 fe f2 : Nat} {gl : List S48} {a3 a4 a5 a6 a7 a8 a11 : Int} {W : World} (h : St w w2 gc C0 C2 G (some ⟨g, 0, none⟩) E D2 e0 e2 ge f0 fe f2 gl a3 a4 a5 a6 a7 a8 a11 W) (i : Int) (h0 : 0 ≤ i) (h1 : i < (cmap.length : Int)) (n : Int) (hn : 1 ≤ n ∧ n ≤ 1000) :
    Fin w w2 gc C0 C2 G e0 e2 ge gl a3 a4 a5 a6 a7 a8 a11 (W.setCell ⟨g, i.toNat * 3 + 1, none⟩ (.int .i64 (wrap64 ((rd_T46 cmap i).f1 + n)))) := by
  obtain ⟨_, _, h2, h3⟩ := elem46 h.d0 i h0 h1 (wrap64 ((rd_T46 cmap i).f1 + n))
  have hg : w2.heap.size ≤ g := Kd.R_base h.d0 g rfl
  refine St.elem h (cmap.set i.toNat ⟨(rd_T46 cmap i).f0, wrap64 ((rd_T46 cmap i).f1 + n), (rd_T46 cmap i).f2⟩) (by simp) (fun he => ?_) h2 (h.b2.setCell (show w2.heap.size ≤ g from hg) _) h3
  have hi : i.toNat < cmap.length := by omega
  have h4 : rd_T46 cmap i = ⟨(rd_T46 cmap i).f0, wrap64 ((rd_T46 cmap i).f1 + n), (rd_T46 cmap i).f2⟩ := by
    have h5 : rd_T46 cmap i = rd_T46 (cmap.set i.toNat ⟨(rd_T46 cmap i).f0, wrap64 ((rd_T46 cmap i).f1 + n), (rd_T46 cmap i).f2⟩) i := congrArg (fun l => rd_T46 l i) he
    refine h5.trans ?_
    show (cmap.set i.toNat _).getD i.toNat z46 = _
    rw [List.getD_eq_getElem?_getD, List.getElem?_set_self hi, Option.getD_some]
  exact w_ne (rd_T46 cmap i).f1 n hn (congrArg S46.f1 h4)
end Go.Proofs.Ytjlbgopgeepiaaa.Conf
