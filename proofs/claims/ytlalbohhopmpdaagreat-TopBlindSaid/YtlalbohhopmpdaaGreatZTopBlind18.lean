/- Words and walks for TopBlind (made of the session's own texts; each part by itself). -/
import Derived.Test.YtlalbohhopmpdaaGreatZTopBlind14
set_option maxRecDepth 100000
set_option maxHeartbeats 8000000
set_option linter.unusedVariables false
set_option linter.unusedSimpArgs false
namespace Go.Proofs.YtlalbohhopmpdaaGreat.PTop
open Go.Proofs.YtlalbohhopmpdaaGreat.Tiny
open Go.RowKit Go.YW.PrintWords Go.YW.PrintLast Go.YW.PrintMore
attribute [local go_sem] yN yO xu xw yP yR xm xq zk zo   -- for this text's walks alone
def xE.f (a0_0 : Int) (a0_1 : Int) (l0_2 : List Int) : Option (List Int × Int) := (jv.f a0_0 (wrap64 ((l0_2.length : Int) + 1)) a0_1).bind fun bt377 => (if bt377.2 = 0 then (if 0 ≤ (wrap64 (7 + (l0_2.length : Int))) then (if (wrap64 (7 + (l0_2.length : Int)) : Int).toNat ≤ 281474976710656 then ((some (List.replicate (wrap64 (7 + (l0_2.length : Int)) : Int).toNat 0 : List Int)).bind fun y381 => (if 0 < y381.length then ((some (Kd.laid y381 0 (min bt377.1.length y381.length) bt377.1 : List Int)).bind fun y384 => (if 0 ≤ (Kd.cnt bt377.1.length y384.length) then (if (Kd.cnt bt377.1.length y384.length) ≤ (y384.length : Int) then (if 0 < y384.length then (some ((Kd.laid y384 ((Kd.cnt bt377.1.length y384.length) : Int).toNat (min l0_2.length (y384.drop ((Kd.cnt bt377.1.length y384.length) : Int).toNat).length) l0_2), 0)) else (none)) else (none)) else (none))) else (none))) else (none)) else (none)) else (some (([] : List Int), bt377.2)))
def xE.T5 : Bool × List (List Nat × List Nat) := (true, [([], []), ([], []), ([], []), ([1, 2], [1, 2]), ([0, 3], [0, 3]), ([], []), ([5], [5]), ([4, 6, 3], [4, 6])])
def xE.B5 : List Nat := [0, 0, 0, 6, 15, 0, 32, 127]
theorem xE.tab5 : jA .any (opsOf Tryz.f65 5) = xE.T5 := by kernel_rfl
theorem xE.bits5 : jo xE.T5.2 xE.B5 = true := by kernel_rfl
theorem xE.calls (a0_0 : Int) (a0_1 : Int) (A0_2 : Option Addr) (c0_2 : Nat) (l0_2 : List Int) (r1 : List Int) (r2 : Int) (w : World) (hr0_2 : Kd.C (Kd.int .u8) w A0_2 l0_2.length l0_2) (hc0_2 : l0_2.length ≤ c0_2) (h : xE.f a0_0 a0_1 l0_2 = some (r1, r2)) :
  Calls Tryz.prog 65 #[.agg #[.int .i64 a0_0, .int .i64 a0_1, .slice A0_2 l0_2.length c0_2]] w fun e w' => ∃ v0_ : Value, e = .returned (.tuple #[v0_, .int .i64 r2]) ∧ Kd.R (Kd.int .u8) 5 w' w.heap.size (fun _ => True) v0_ r1 ∧ Below w.heap.size w w' := by
 have hu141 := Tryz.underlying141
 have hu201 := Tryz.underlying201
 have HR0_2 := ze.mk hr0_2
 have HC0_2 := ze.mk hc0_2
 clear hr0_2 hc0_2
 have HB := ze.mk (Below.refl w.heap.size w)
 have H : ((jv.f a0_0 (wrap64 ((l0_2.length : Int) + 1)) a0_1).bind fun bt377 => (if bt377.2 = 0 then (if 0 ≤ (wrap64 (7 + (l0_2.length : Int))) then (if (wrap64 (7 + (l0_2.length : Int)) : Int).toNat ≤ 281474976710656 then ((some (List.replicate (wrap64 (7 + (l0_2.length : Int)) : Int).toNat 0 : List Int)).bind fun y381 => (if 0 < y381.length then ((some (Kd.laid y381 0 (min bt377.1.length y381.length) bt377.1 : List Int)).bind fun y384 => (if 0 ≤ (Kd.cnt bt377.1.length y384.length) then (if (Kd.cnt bt377.1.length y384.length) ≤ (y384.length : Int) then (if 0 < y384.length then (some ((Kd.laid y384 ((Kd.cnt bt377.1.length y384.length) : Int).toNat (min l0_2.length (y384.drop ((Kd.cnt bt377.1.length y384.length) : Int).toNat).length) l0_2), 0)) else (none)) else (none)) else (none))) else (none))) else (none)) else (none)) else (some (([] : List Int), bt377.2)))) = some (r1, r2) := h
 clear h
 replace H := Option.bind_eq_some_iff.mp H
 obtain ⟨⟨t377, t380⟩, A20, H⟩ := H
 replace H : (if t380 = 0 then (if 0 ≤ (wrap64 (7 + (l0_2.length : Int))) then (if (wrap64 (7 + (l0_2.length : Int)) : Int).toNat ≤ 281474976710656 then ((some (List.replicate (wrap64 (7 + (l0_2.length : Int)) : Int).toNat 0 : List Int)).bind fun y381 => (if 0 < y381.length then ((some (Kd.laid y381 0 (min t377.length y381.length) t377 : List Int)).bind fun y384 => (if 0 ≤ (Kd.cnt t377.length y384.length) then (if (Kd.cnt t377.length y384.length) ≤ (y384.length : Int) then (if 0 < y384.length then (some ((Kd.laid y384 ((Kd.cnt t377.length y384.length) : Int).toNat (min l0_2.length (y384.drop ((Kd.cnt t377.length y384.length) : Int).toNat).length) l0_2), 0)) else (none)) else (none)) else (none))) else (none))) else (none)) else (none)) else (some (([] : List Int), t380))) = some (r1, r2) := H
 have A2 := ze.mk A20
 clear A20
 by_cases c3 : t380 = 0
 ·
  rw [if_pos c3] at H
  have c3b0 : (t380 == 0) = true := beq_iff_eq.mpr c3
  have c3b1 : (t380 != 0) = false := bne_eq_false_iff_eq.mpr c3
  clear c3
  obtain ⟨ji4, hji4⟩ : ∃ j_ : Int, (wrap64 (7 + (l0_2.length : Int))) = j_ := ⟨_, rfl⟩
  replace H : (if 0 ≤ (ji4) then (if (ji4 : Int).toNat ≤ 281474976710656 then ((some (List.replicate (ji4 : Int).toNat 0 : List Int)).bind fun y381 => (if 0 < y381.length then ((some (Kd.laid y381 0 (min t377.length y381.length) t377 : List Int)).bind fun y384 => (if 0 ≤ (Kd.cnt t377.length y384.length) then (if (Kd.cnt t377.length y384.length) ≤ (y384.length : Int) then (if 0 < y384.length then (some ((Kd.laid y384 ((Kd.cnt t377.length y384.length) : Int).toNat (min l0_2.length (y384.drop ((Kd.cnt t377.length y384.length) : Int).toNat).length) l0_2), 0)) else (none)) else (none)) else (none))) else (none))) else (none)) else (none)) = some (r1, r2) := by first | (rw [hji4] at H; exact H) | (simp only [hji4] at H ⊢; exact H)
  (try rw [hji4] at A2)
  have hji4w : (IntKind.i64.wrap (7 + (l0_2.length : Int))) = ji4 := (xy _).trans hji4
  by_cases c5 : 0 ≤ (ji4)
  ·
   rw [if_pos c5] at H
   have c5b0 := eq_true c5
   have c5b1 : decide (0 ≤ (ji4)) = true := dT c5
   clear c5
   by_cases c6 : (ji4 : Int).toNat ≤ 281474976710656
   ·
    rw [if_pos c6] at H
    have c6b0 := eq_true c6
    have c6b1 : decide ((ji4 : Int).toNat ≤ 281474976710656) = true := dT c6
    clear c6
    obtain ⟨y381, hy381⟩ : ∃ y_ : List Int, y_ = (List.replicate (ji4 : Int).toNat 0) := ⟨_, rfl⟩
    replace H : (if 0 < y381.length then ((some (Kd.laid y381 0 (min t377.length y381.length) t377 : List Int)).bind fun y384 => (if 0 ≤ (Kd.cnt t377.length y384.length) then (if (Kd.cnt t377.length y384.length) ≤ (y384.length : Int) then (if 0 < y384.length then (some ((Kd.laid y384 ((Kd.cnt t377.length y384.length) : Int).toNat (min l0_2.length (y384.drop ((Kd.cnt t377.length y384.length) : Int).toNat).length) l0_2), 0)) else (none)) else (none)) else (none))) else (none)) = some (r1, r2) := by first | (rw [hy381]; with_reducible exact H) | (have H2_ := (Option.bind_some _ _).symm.trans H; rw [hy381]; with_reducible exact H2_) | (have H2_ := (Option.bind_some _ _).symm.trans H; with_reducible exact H2_) | with_reducible exact H | (rw [hy381]; exact H) | exact H
    have Ny381 := ze.mk hy381
    clear hy381
    by_cases c7 : 0 < y381.length
    ·
     rw [if_pos c7] at H
     have c7b0 := eq_true c7
     have c7b1 : decide (0 < y381.length) = true := dT c7
     clear c7
     obtain ⟨y384, hy384⟩ : ∃ y_ : List Int, y_ = (Kd.laid y381 0 (min t377.length y381.length) t377) := ⟨_, rfl⟩
     replace H : (if 0 ≤ (Kd.cnt t377.length y384.length) then (if (Kd.cnt t377.length y384.length) ≤ (y384.length : Int) then (if 0 < y384.length then (some ((Kd.laid y384 ((Kd.cnt t377.length y384.length) : Int).toNat (min l0_2.length (y384.drop ((Kd.cnt t377.length y384.length) : Int).toNat).length) l0_2), 0)) else (none)) else (none)) else (none)) = some (r1, r2) := by first | (rw [hy384]; with_reducible exact H) | (have H2_ := (Option.bind_some _ _).symm.trans H; rw [hy384]; with_reducible exact H2_) | (have H2_ := (Option.bind_some _ _).symm.trans H; with_reducible exact H2_) | with_reducible exact H | (rw [hy384]; exact H) | exact H
     have Ny384 := ze.mk hy384
     clear hy384
     by_cases c8 : 0 ≤ (Kd.cnt t377.length y384.length)
     ·
      rw [if_pos c8] at H
      have c8b0 := eq_true c8
      have c8b1 : decide (0 ≤ (Kd.cnt t377.length y384.length)) = true := dT c8
      clear c8
      by_cases c9 : (Kd.cnt t377.length y384.length) ≤ (y384.length : Int)
      ·
       rw [if_pos c9] at H
       have c9b0 := eq_true c9
       have c9b1 : decide ((Kd.cnt t377.length y384.length) ≤ (y384.length : Int)) = true := dT c9
       clear c9
       obtain ⟨y387, hy387⟩ : ∃ y_ : List Int, y_ = (y384.drop ((Kd.cnt t377.length y384.length) : Int).toNat) := ⟨_, rfl⟩
       replace H : (if 0 < y384.length then (some ((Kd.laid y384 ((Kd.cnt t377.length y384.length) : Int).toNat (min l0_2.length y387.length) l0_2), 0)) else (none)) = some (r1, r2) := by first | (rw [hy387]; with_reducible exact H) | (have H2_ := (Option.bind_some _ _).symm.trans H; rw [hy387]; with_reducible exact H2_) | (have H2_ := (Option.bind_some _ _).symm.trans H; with_reducible exact H2_) | with_reducible exact H | (rw [hy387]; exact H) | exact H
       have Ny387 := ze.mk hy387
       clear hy387
       by_cases c10 : 0 < y384.length
       ·
        rw [if_pos c10] at H
        have c10b0 := eq_true c10
        have c10b1 : decide (0 < y384.length) = true := dT c10
        clear c10
        obtain ⟨y391, hy391⟩ : ∃ y_ : List Int, y_ = (Kd.laid y384 ((Kd.cnt t377.length y384.length) : Int).toNat (min l0_2.length y387.length) l0_2) := ⟨_, rfl⟩
        replace H : (some (y391, 0)) = some (r1, r2) := by first | (rw [hy391]; with_reducible exact H) | (have H2_ := (Option.bind_some _ _).symm.trans H; rw [hy391]; with_reducible exact H2_) | (have H2_ := (Option.bind_some _ _).symm.trans H; with_reducible exact H2_) | with_reducible exact H | (rw [hy391]; exact H) | exact H
        have Ny391 := ze.mk hy391
        clear hy391
        simp only [Option.some.injEq, Prod.mk.injEq] at H
        obtain ⟨rfl, rfl⟩ := H
        go_enter Tryz.func65, Tryz.ntmps65
        try go_wp2_with (first | ((with_reducible refine zN (N := 1) rfl ?_); refine yf ?hg (N := 1) ?hd (cs := #[.int .i64 a0_0, .int .i64 a0_1, .slice A0_2 l0_2.length c0_2]) (t := 141) ?hr ?_; (case hd => rfl); (case hg => rfl); (case hr => first | (go_simp; done) | (go_simp; rfl)); intro gb376 hg w11 hbox hb; have BK376 := ze.mk (hbox); have GW376 := ze.mk ((by rw [hg]; exact (zt (HB.out)) : w.heap.size ≤ gb376)); have GE376 := ze.mk ((by rw [hg]; exact (zt (HB.out)) : w.heap.size ≤ gb376)); replace HB := ze.mk (zG (HB.out) hb); clear hb hbox hg; obtain ⟨hcz12_0, hcz12_1, hcz12_2⟩ := zS BK376.out; obtain ⟨hfz12_0, hfz12_1, hfz12_2⟩ := xD BK376.out) | ((with_reducible refine zO (f := 109) rfl ?_); refine yL (some 17) rfl rfl Tryz.func109 (by kernel_rfl) rfl #[.agg #[.int .i64 a0_0, .int .i64 (wrap64 ((l0_2.length : Int) + 1)), .int .i64 a0_1]] rfl (by (try simp only [List.map_toArray, List.map_cons, List.map_nil]); first | done | rfl | (simp only [List.length_drop, List.length_take]; rfl)) ?_; (with_reducible refine (jv.calls a0_0 (wrap64 ((l0_2.length : Int) + 1)) a0_1 t377 t380 _ A2.out).mono ?_); rintro e w13 ⟨v378, rfl, ho0, hb⟩; refine ⟨_, rfl, ?_⟩; have HO379 := ze.mk (Kd.zU ho0 (zt (HB.out))); replace BK376 := ze.mk (zb BK376.out hb); replace HB := ze.mk (zG (HB.out) hb); (try clear hb); (try clear ho0); obtain ⟨hcz14_0, hcz14_1, hcz14_2⟩ := zS BK376.out; obtain ⟨hfz14_0, hfz14_1, hfz14_2⟩ := xD BK376.out) | ((with_reducible refine zN (N := 27) rfl ?_); refine Kd.Qr (Kd.int .u8) _ 5 rfl (N := 27) rfl 59 _ _ rfl ji4 rfl rfl Tryz.underlying59 (.int .u8 0) 1 info5 rfl (by decide) (by omega) 0 (ok := fun _ => True) (okp := fun _ => True) rfl (fun _ hk => hk) trivial (of_decide_eq_true (by first | (with_reducible assumption) | assumption)) (Nat.le_trans (Nat.mul_le_mul_right _ (of_decide_eq_true (by first | (with_reducible assumption) | assumption) : ji4.toNat ≤ 281474976710656)) (by omega)) (Below.refl _ _) (Nat.le_refl _) ?_; intro v382 w15 ho16 hb hg_ hnew_; clear hg_ hnew_; (first | rw [← Ny381.out] at ho16 | (simp only [Int.reduceToNat] at ho16; rw [← Ny381.out] at ho16)); have HO383 := ze.mk (Kd.zU (Kd.ZU ho16 (Kd.Xb (HO379.out))) (zt (HB.out))); replace HO379 := ze.mk (Kd.kK (HO379.out) (Kd.kg ho16) hb); replace BK376 := ze.mk (zb BK376.out hb); replace HB := ze.mk (zG (HB.out) hb); clear hb ho16))
        have n0_ := ze.mk (Kd.vg HO379.out)
        have n1_ := ze.mk (Kd.vg HO383.out)
        have n2_ := ze.mk (zn BK376.out)
        have n3_ := ze.mk (zI HB.out)
        clear HO379
        clear HO383
        clear BK376
        clear HB
        have HO379 := n0_
        have HO383 := n1_
        have BK376 := n2_
        have HB := n3_
        clear n0_ n1_ n2_ n3_
        obtain ⟨Ao20, co20, eo20⟩ := Kd.yc HO383.out
        (first | subst eo20 | (injection eo20 with f1_ f2_ f3_; have f4_ := f1_.symm; have f5_ := f3_.symm; clear f1_ f2_ f3_; subst f4_; subst f5_))
        obtain ⟨Ao21, co21, eo21⟩ := Kd.yc HO379.out
        (first | subst eo21 | (injection eo21 with f1_ f2_ f3_; have f4_ := f1_.symm; have f5_ := f3_.symm; clear f1_ f2_ f3_; subst f4_; subst f5_))
        obtain ⟨go19, co19, eo19, gb19, gl19, cl19, HG19⟩ := Kd.qm HO383.out (by have hp_ : 0 < y381.length := of_decide_eq_true (by first | (with_reducible assumption) | assumption); omega)
        (first | cases eo19 | (injection eo19 with ea_ en_ ec_; (first | subst ea_ | (injection ea_ with ea_; subst ea_)); subst ec_; clear en_))
        have GB19 := ze.mk gb19
        have GG19 := ze.mk HG19
        clear gb19 gl19 HG19
        have n_ := ze.mk (Kd.yX (ok' := (fun k_ => some k_ ≠ (.slice Ao21 t377.length co21 : Value).ownBlock)) HO383.out (fun k_ hk => by first | exact hk | exact hk.2))
        clear HO383
        have HO383 := n_
        clear n_
        refine vv (n := 8) (S := fun w' => w'.cell? ⟨gb376, 0, none⟩ = some (.int .i64 a0_0) ∧ w'.cell? ⟨gb376, 1, none⟩ = some (.int .i64 a0_1) ∧ w'.cell? ⟨gb376, 2, none⟩ = some (.slice A0_2 l0_2.length c0_2)) (ds := []) #[false,false,false,false,false,false,false,false] (by kernel_rfl) rfl rfl ⟨(za BK376.out 0).trans rfl, (za BK376.out 1).trans rfl, (za BK376.out 2).trans rfl⟩ (fun hHeld => ?_); refine jk xE.tab5 xE.bits5 (fun HT_ HW_ => ?_)
        generalize w15.drew = w17 at HO379 HO383 BK376 HB GG19 hHeld ⊢
        refine pq_ 0 (some 28) ?_ (hc := yo HT_.out (by kernel_rfl))
        refine pq_ 1 (some 29) ?_ (hc := yo HT_.out (by kernel_rfl))
        refine pq_ 2 (some 30) ?_ (hc := yo HT_.out (by kernel_rfl))
        refine pq_ 5 (some 33) ?_ (hc := yo HT_.out (by kernel_rfl))
        refine tq_ 6 (some 34) hHeld ?_ (hc := qd HT_.out HW_.out (by kernel_rfl))
        refine oq_ 3 (some 31) (fun K hK => ?_) (hc := jg HT_.out (by kernel_rfl))
        refine Kd.jX (Kd.int .u8) (Kd.JN .u8) (w0 := w) w.heap.size (by rfl) (.tmp 29) (.tmp 30) 59 59 5 rfl Tryz.underlying59 (by kernel_rfl) (g := go19) (n := y381.length) (c := co20) 0 t377 rfl rfl (HO383.out) ?hm ?hA ?hR (HB.out) (zt (HB.out)) ?_
        (case hm => omega)
        (case hA => intro _; rw [Nat.zero_mul])
        (case hR => repeat (first | exact (Kd.zB HO379.out).2.2 | (with_reducible refine Kd.yC ?_ _) | (with_reducible refine Kd.yF ?_ _) | (with_reducible refine Kd.xe ?_)))
        intro w18 ho hb hg
        rw [← Ny384.out] at ho
        have hn_ : y381.length = y384.length := (Kd.zB ho).1
        rw [hn_] at ho ⊢
        clear hn_
        have n0_ := ze.mk (yG (g := gb376) (o := .cells #[.int .i64 a0_0, .int .i64 a0_1, .slice A0_2 l0_2.length c0_2] 141 (0, 0)) (BK376.out) hg (Kd.Qz HO383.out BK376.out (by decide)))
        have n1_ := ze.mk (Kd.vT (v := (.slice (some ⟨go19, 0, none⟩) y381.length co20)) (v1 := .slice (some ⟨go19, 0, none⟩) y384.length co20) (ok := (fun _ => True)) (HO379.out) hg (.inl rfl))
        have n2_ := ze.mk (ho)
        have n3_ := ze.mk (hb)
        clear BK376
        clear HO379
        clear HO383
        clear HB
        have BK376 := n0_
        have HO379 := n1_
        have HO383 := n2_
        have HB := n3_
        clear n0_ n1_ n2_ n3_
        clear ho hb hg
        have q22 : ((Kd.cnt t377.length y384.length) : Int) ≤ ((y384.length : Int) : Int) := of_decide_eq_true (by first | (with_reducible assumption) | assumption)
        obtain ⟨i022, hi022, _, hsz22, _⟩ := info_parts info5
        have hroom22 : y384.length ≤ co20 := (Kd.zB HO383.out).2.1
        have hC22 : Kd.C (Kd.int .u8) _ (some ⟨go19, 0, none⟩) y384.length y384 := (Kd.zB HO383.out).2.2
        have q022 : (0 : Int) ≤ ((Kd.cnt t377.length y384.length) : Int) := of_decide_eq_true (by first | (with_reducible assumption) | assumption)
        have hcut22 := zal (P := Tryz.prog) 59 5 .i64 Tryz.underlying59 hi022 1 hsz22 (some ⟨go19, 0, none⟩) y384.length co20 (Kd.cnt t377.length y384.length) q022 q22
        have hr22 := Kd.QK (m := ((Kd.cnt t377.length y384.length) : Int).toNat) (c := co20) hC22 (by omega) hroom22
        obtain ⟨A22, hA22⟩ : ∃ A1, A1 = (if co20 = ((Kd.cnt t377.length y384.length) : Int).toNat then (some ⟨go19, 0, none⟩) else ((some ⟨go19, 0, none⟩) : Option Addr).map (·.add (((Kd.cnt t377.length y384.length) : Int).toNat * 1))) := ⟨_, rfl⟩
        obtain ⟨c22, hc22⟩ : ∃ c1, c1 = co20 - ((Kd.cnt t377.length y384.length) : Int).toNat := ⟨_, rfl⟩
        have hy22 : y387.length = y384.length - ((Kd.cnt t377.length y384.length) : Int).toNat := (by rw [Ny387.out, List.length_drop] <;> omega)
        rw [show (y384).drop ((Kd.cnt t377.length y384.length) : Int).toNat = y387 from Ny387.out.symm] at hr22
        replace hr22 : Kd.C (Kd.int .u8) _ A22 y387.length y387 := (by rw [hA22]; exact hr22)
        rw [← hy22, ← hA22, ← hc22] at hcut22
        have HR390 := ze.mk hr22
        have HC390 := ze.mk (show y387.length ≤ c22 from by rw [hy22, hc22]; exact Nat.sub_le_sub_right hroom22 _)
        clear hr22 hC22 hroom22 hi022 hsz22 hc22
        have KY22 := ze.mk hy22
        have KA22 := ze.mk hA22
        clear hy22 hA22
        have KL22 := ze.mk (show ((Kd.cnt t377.length y384.length) : Int).toNat ≤ y384.length from by omega)
        replace q22 := eq_true q22
        refine hK.out _ _ ⟨(za BK376.out 0).trans rfl, (za BK376.out 1).trans rfl, (za BK376.out 2).trans rfl⟩ (fun hHeld => ?_)
        clear hK K
        refine nq_ ?_
        refine pq_ 4 (some 32) ?_ (hc := yo HT_.out (by kernel_rfl))
        refine oq_ 7 (some 35) (fun K hK => ?_) (hc := jg HT_.out (by kernel_rfl))
        have hj_ : 0 ≤ ((Kd.cnt t377.length y384.length) : Int) := of_decide_eq_true (by first | (with_reducible assumption) | assumption)
        have hl_ : ((Kd.cnt t377.length y384.length) : Int) ≤ (y384.length : Int) := of_decide_eq_true (by first | (with_reducible assumption) | assumption)
        have hy1_ := KY22.out
        refine Kd.jX (Kd.int .u8) (Kd.JN .u8) (w0 := w) w.heap.size (by rfl) (.tmp 32) (.tmp 34) 59 59 5 rfl Tryz.underlying59 (by kernel_rfl) (g := go19) (n := y384.length) (c := co20) (((Kd.cnt t377.length y384.length) : Int).toNat) l0_2 rfl rfl (HO383.out) ?hm ?hA ?hR (HB.out) (zt (HB.out)) ?_
        (case hm => omega)
        (case hA => intro hp_; have ha_ := KA22.out; have hc_ := (Kd.zB HO383.out).2.1; rw [if_neg (by omega)] at ha_; rw [ha_, Option.map_some, zcN, Nat.zero_add]; first | done | rfl)
        (case hR => repeat (first | exact (Kd.zx HR0_2.out HB.out) | (with_reducible refine Kd.yC ?_ _) | (with_reducible refine Kd.yF ?_ _) | (with_reducible refine Kd.xe ?_)))
        intro w23 ho hb hg
        clear hj_ hl_ hy1_
        rw [← Ny391.out] at ho
        have hn_ : y384.length = y391.length := (Kd.zB ho).1
        rw [hn_] at ho ⊢
        clear hn_
        have n0_ := ze.mk (yG (g := gb376) (o := .cells #[.int .i64 a0_0, .int .i64 a0_1, .slice A0_2 l0_2.length c0_2] 141 (0, 0)) (BK376.out) hg (Kd.Qz HO383.out BK376.out (by decide)))
        have n1_ := ze.mk (Kd.vT (v := (.slice (some ⟨go19, 0, none⟩) y384.length co20)) (v1 := .slice (some ⟨go19, 0, none⟩) y391.length co20) (ok := (fun _ => True)) (HO379.out) hg (.inl rfl))
        have n2_ := ze.mk (ho)
        have n3_ := ze.mk (hb)
        clear BK376
        clear HO379
        clear HO383
        clear HB
        have BK376 := n0_
        have HO379 := n1_
        have HO383 := n2_
        have HB := n3_
        clear n0_ n1_ n2_ n3_
        clear ho hb hg
        refine hK.out _ _ ⟨(za BK376.out 0).trans rfl, (za BK376.out 1).trans rfl, (za BK376.out 2).trans rfl⟩ (fun hHeld => ?_)
        clear hK K
        refine nq_ ?_
        refine xJ (vk HT_.out (by kernel_rfl)) ?_
        try go_wp2
        go_ret2
        exact ⟨_, by first | rfl | (simp [zC, zD] <;> rfl) | (simp only [← hji4]; first | rfl | (simp [zC, zD] <;> rfl)) | (simp [*, zC, zD] <;> rfl), Kd.yX HO383.out (fun _ hk => trivial), HB.out⟩
       ·
        rw [if_neg c10] at H
        exact absurd H (by simp)
      ·
       rw [if_neg c9] at H
       exact absurd H (by simp)
     ·
      rw [if_neg c8] at H
      exact absurd H (by simp)
    ·
     rw [if_neg c7] at H
     exact absurd H (by simp)
   ·
    rw [if_neg c6] at H
    exact absurd H (by simp)
  ·
   rw [if_neg c5] at H
   exact absurd H (by simp)
 ·
  rw [if_neg c3] at H
  have c3b0 : (t380 == 0) = false := beq_eq_false_iff_ne.mpr c3
  have c3b1 : (t380 != 0) = true := bne_iff_ne.mpr c3
  simp only [Option.some.injEq, Prod.mk.injEq] at H
  obtain ⟨rfl, rfl⟩ := H
  go_enter Tryz.func65, Tryz.ntmps65
  go_wp2_with (first | ((with_reducible refine zN (N := 1) rfl ?_); refine yf ?hg (N := 1) ?hd (cs := #[.int .i64 a0_0, .int .i64 a0_1, .slice A0_2 l0_2.length c0_2]) (t := 141) ?hr ?_; (case hd => rfl); (case hg => rfl); (case hr => first | (go_simp; done) | (go_simp; rfl)); intro gb376 hg w25 hbox hb; have BK376 := ze.mk (hbox); have GW376 := ze.mk ((by rw [hg]; exact (zt (HB.out)) : w.heap.size ≤ gb376)); have GE376 := ze.mk ((by rw [hg]; exact (zt (HB.out)) : w.heap.size ≤ gb376)); replace HB := ze.mk (zG (HB.out) hb); clear hb hbox hg; obtain ⟨hcz26_0, hcz26_1, hcz26_2⟩ := zS BK376.out; obtain ⟨hfz26_0, hfz26_1, hfz26_2⟩ := xD BK376.out) | ((with_reducible refine zO (f := 109) rfl ?_); refine yL (some 17) rfl rfl Tryz.func109 (by kernel_rfl) rfl #[.agg #[.int .i64 a0_0, .int .i64 (wrap64 ((l0_2.length : Int) + 1)), .int .i64 a0_1]] rfl (by (try simp only [List.map_toArray, List.map_cons, List.map_nil]); first | done | rfl | (simp only [List.length_drop, List.length_take]; rfl)) ?_; (with_reducible refine (jv.calls a0_0 (wrap64 ((l0_2.length : Int) + 1)) a0_1 t377 t380 _ A2.out).mono ?_); rintro e w27 ⟨v378, rfl, ho0, hb⟩; refine ⟨_, rfl, ?_⟩; have HO379 := ze.mk (Kd.zU ho0 (zt (HB.out))); replace BK376 := ze.mk (zb BK376.out hb); replace HB := ze.mk (zG (HB.out) hb); (try clear hb); (try clear ho0)))
  go_ret2
  exact ⟨_, by first | rfl | (simp [zC, zD] <;> rfl) | (simp [*, zC, zD] <;> rfl), by first | exact Kd.ql _ _ _ _ _ | exact Kd.N_nil _ _ _ _ _ | exact Kd.V_nil _ _ _ _ _ | exact Kd.Q_nil _ _ _ _ _ | exact Kd.S_nil _ _ _ _ _, HB.out⟩
def zK.f (a0 : Int) (a1 : Int) : Option (Int) := if a1 = 0 then (none) else (if (Int.tmod a0 a1) < 0 then (some (wrap64 ((Int.tmod a0 a1) + a1))) else (some (Int.tmod a0 a1)))
theorem zK.calls (a0 : Int) (a1 : Int) (r : Int) (w : World) (h : zK.f a0 a1 = some r) :
  Calls Tryz.prog 8 #[.int .i64 a0, .int .i64 a1] w fun e w' => e = .returned (.int .i64 r) ∧ zw w w' := by
 have H : (if a1 = 0 then (none) else (if (Int.tmod a0 a1) < 0 then (some (wrap64 ((Int.tmod a0 a1) + a1))) else (some (Int.tmod a0 a1)))) = some r := h
 clear h
 by_cases c3 : a1 = 0
 ·
  rw [if_pos c3] at H
  exact absurd H (by simp)
 ·
  rw [if_neg c3] at H
  have c3b0 : (a1 == 0) = false := beq_eq_false_iff_ne.mpr c3
  have c3b1 : (a1 != 0) = true := bne_iff_ne.mpr c3
  by_cases c4 : (Int.tmod a0 a1) < 0
  ·
   rw [if_pos c4] at H
   have c4b0 : decide ((Int.tmod a0 a1) < 0) = true := dT c4
   clear c4
   obtain rfl := Option.some.inj H
   go_enter Tryz.func8, Tryz.ntmps8
   go_wp2
   go_ret
   exact ⟨by first | rfl | (simp; done) | (simp [*]; done), by repeat (first | exact zw.refl _ | apply zw.step)⟩
  ·
   rw [if_neg c4] at H
   have c4b0 : decide ((Int.tmod a0 a1) < 0) = false := dF c4
   clear c4
   obtain rfl := Option.some.inj H
   go_enter Tryz.func8, Tryz.ntmps8
   go_wp2
   go_ret
   exact ⟨by first | rfl | (simp; done) | (simp [*]; done), by repeat (first | exact zw.refl _ | apply zw.step)⟩
def yz.f (a0 : Int) (a1 : Int) (a2 : Int) : Option (Int) := if a1 = 0 then (none) else ((zK.f (wrap64 (Int.tdiv a0 a1)) a2).bind fun t547 => (some t547))
theorem yz.calls (a0 : Int) (a1 : Int) (a2 : Int) (r : Int) (w : World) (h : yz.f a0 a1 a2 = some r) :
  Calls Tryz.prog 12 #[.int .i64 a0, .int .i64 a1, .int .i64 a2] w fun e w' => e = .returned (.int .i64 r) ∧ zw w w' := by
 have H : (if a1 = 0 then (none) else ((zK.f (wrap64 (Int.tdiv a0 a1)) a2).bind fun t547 => (some t547))) = some r := h
 clear h
 by_cases c4 : a1 = 0
 ·
  rw [if_pos c4] at H
  exact absurd H (by simp)
 ·
  rw [if_neg c4] at H
  have c4b0 : (a1 == 0) = false := beq_eq_false_iff_ne.mpr c4
  have c4b1 : (a1 != 0) = true := bne_iff_ne.mpr c4
  replace H := Option.bind_eq_some_iff.mp H
  obtain ⟨t547, A50, H⟩ := H
  replace H : (some t547) = some r := H
  have A5 := ze.mk A50
  clear A50
  obtain rfl := Option.some.inj H
  go_enter Tryz.func12, Tryz.ntmps12
  go_wp2_with (first | ((with_reducible refine zO (f := 8) rfl ?_); refine yL (some 11) rfl rfl Tryz.func8 (by kernel_rfl) rfl #[.int .i64 (wrap64 (Int.tdiv a0 a1)), .int .i64 a2] rfl (by (try simp only [List.map_toArray, List.map_cons, List.map_nil]); first | done | rfl | (simp only [List.length_drop, List.length_take]; rfl)) ?_; (with_reducible refine (zK.calls (wrap64 (Int.tdiv a0 a1)) a2 t547 _ A5.out).mono ?_); rintro e w' ⟨rfl, ⟨nd, rfl⟩⟩; refine ⟨_, rfl, ?_⟩))
  go_ret
  exact ⟨by first | rfl | (simp; done) | (simp [*]; done), by repeat (first | exact zw.refl _ | apply zw.step)⟩
def xY.f (a0 : Int) : Option (Bool) := if a0 ≥ 0 then (some (decide (a0 ≤ 255))) else (some false)
theorem xY.calls (a0 : Int) (r : Bool) (w : World) (h : xY.f a0 = some r) :
  Calls Tryz.prog 86 #[.int .i64 a0] w fun e w' => e = .returned (.bool r) ∧ zw w w' := by
 have H : (if a0 ≥ 0 then (some (decide (a0 ≤ 255))) else (some false)) = some r := h
 clear h
 by_cases c2 : a0 ≥ 0
 ·
  rw [if_pos c2] at H
  have c2b0 : decide (0 ≤ a0) = true := dT c2
  clear c2
  obtain rfl := Option.some.inj H
  go_enter Tryz.func86, Tryz.ntmps86
  go_wp2
  go_ret
  exact ⟨by first | rfl | (simp; done) | (simp [*]; done), by repeat (first | exact zw.refl _ | apply zw.step)⟩
 ·
  rw [if_neg c2] at H
  have c2b0 : decide (0 ≤ a0) = false := dF c2
  clear c2
  obtain rfl := Option.some.inj H
  go_enter Tryz.func86, Tryz.ntmps86
  go_wp2
  go_ret
  exact ⟨by first | rfl | (simp; done) | (simp [*]; done), by repeat (first | exact zw.refl _ | apply zw.step)⟩
def qh.f (a0 : Int) : Option (Bool) := if a0 ≥ 0 then (some (decide (a0 ≤ 65535))) else (some false)
theorem qh.calls (a0 : Int) (r : Bool) (w : World) (h : qh.f a0 = some r) :
  Calls Tryz.prog 88 #[.int .i64 a0] w fun e w' => e = .returned (.bool r) ∧ zw w w' := by
 have H : (if a0 ≥ 0 then (some (decide (a0 ≤ 65535))) else (some false)) = some r := h
 clear h
 by_cases c2 : a0 ≥ 0
 ·
  rw [if_pos c2] at H
  have c2b0 : decide (0 ≤ a0) = true := dT c2
  clear c2
  obtain rfl := Option.some.inj H
  go_enter Tryz.func88, Tryz.ntmps88
  go_wp2
  go_ret
  exact ⟨by first | rfl | (simp; done) | (simp [*]; done), by repeat (first | exact zw.refl _ | apply zw.step)⟩
 ·
  rw [if_neg c2] at H
  have c2b0 : decide (0 ≤ a0) = false := dF c2
  clear c2
  obtain rfl := Option.some.inj H
  go_enter Tryz.func88, Tryz.ntmps88
  go_wp2
  go_ret
  exact ⟨by first | rfl | (simp; done) | (simp [*]; done), by repeat (first | exact zw.refl _ | apply zw.step)⟩
def xC.f (l0 : List Int) (a1 : Int) : Option (List Int) := if ([] : List Int).length + l0.length < 140737488355328 then ((some (([] : List Int) ++ l0 : List Int)).bind fun y636 => ((some (([(IntKind.u16.wrap (Int.tdiv a1 256)) % 256, (Int.tmod a1 256) % 256] : List Int) : List Int)).bind fun y639 => (if y636.length + y639.length < 140737488355328 then (some (y636 ++ y639)) else (none)))) else (none)
theorem xC.calls (A0 : Option Addr) (c0 : Nat) (l0 : List Int) (a1 : Int) (r : List Int) (w : World) (hr0 : Kd.C (Kd.int .u8) w A0 l0.length l0) (hc0 : l0.length ≤ c0) (h : xC.f l0 a1 = some r) :
  Calls Tryz.prog 156 #[.slice A0 l0.length c0, .int .u16 a1] w fun e w' => ∃ v0_ : Value, e = .returned (v0_) ∧ Kd.R (Kd.int .u8) 5 w' w.heap.size (fun _ => True) v0_ r ∧ Below w.heap.size w w' := by
 have HR0 := ze.mk hr0
 have HC0 := ze.mk hc0
 clear hr0 hc0
 have HB := ze.mk (Below.refl w.heap.size w)
 have H : (if ([] : List Int).length + l0.length < 140737488355328 then ((some (([] : List Int) ++ l0 : List Int)).bind fun y636 => ((some (([(IntKind.u16.wrap (Int.tdiv a1 256)) % 256, (Int.tmod a1 256) % 256] : List Int) : List Int)).bind fun y639 => (if y636.length + y639.length < 140737488355328 then (some (y636 ++ y639)) else (none)))) else (none)) = some r := h
 clear h
 by_cases c3 : ([] : List Int).length + l0.length < 140737488355328
 ·
  rw [if_pos c3] at H
  have LMc3 := ze.mk c3
  clear c3
  obtain ⟨y636, hy636⟩ : ∃ y_ : List Int, y_ = (([] : List Int) ++ l0) := ⟨_, rfl⟩
  replace H : ((some (([(IntKind.u16.wrap (Int.tdiv a1 256)) % 256, (Int.tmod a1 256) % 256] : List Int) : List Int)).bind fun y639 => (if y636.length + y639.length < 140737488355328 then (some (y636 ++ y639)) else (none))) = some r := by first | (rw [hy636]; with_reducible exact H) | (have H2_ := (Option.bind_some _ _).symm.trans H; rw [hy636]; with_reducible exact H2_) | (have H2_ := (Option.bind_some _ _).symm.trans H; with_reducible exact H2_) | with_reducible exact H | (rw [hy636]; exact H) | exact H
  have Ny636 := ze.mk hy636
  clear hy636
  obtain ⟨y639, hy639⟩ : ∃ y_ : List Int, y_ = (([(IntKind.u16.wrap (Int.tdiv a1 256)) % 256, (Int.tmod a1 256) % 256] : List Int)) := ⟨_, rfl⟩
  replace H : (if y636.length + y639.length < 140737488355328 then (some (y636 ++ y639)) else (none)) = some r := by first | (rw [hy639]; with_reducible exact H) | (have H2_ := (Option.bind_some _ _).symm.trans H; rw [hy639]; with_reducible exact H2_) | (have H2_ := (Option.bind_some _ _).symm.trans H; with_reducible exact H2_) | with_reducible exact H | (rw [hy639]; exact H) | exact H
  have Ny639 := ze.mk hy639
  clear hy639
  by_cases c4 : y636.length + y639.length < 140737488355328
  ·
   rw [if_pos c4] at H
   have LMc4 := ze.mk c4
   clear c4
   obtain ⟨y642, hy642⟩ : ∃ y_ : List Int, y_ = (y636 ++ y639) := ⟨_, rfl⟩
   replace H : (some y642) = some r := by first | (rw [hy642]; with_reducible exact H) | (have H2_ := (Option.bind_some _ _).symm.trans H; rw [hy642]; with_reducible exact H2_) | (have H2_ := (Option.bind_some _ _).symm.trans H; with_reducible exact H2_) | with_reducible exact H | (rw [hy642]; exact H) | exact H
   have Ny642 := ze.mk hy642
   clear hy642
   obtain rfl := Option.some.inj H
   go_enter Tryz.func156, Tryz.ntmps156
   go_wp2_with (first | ((with_reducible refine yj (b := .append) (xs := #[.const (.slice none 0 0), .tmp 5]) rfl ?_); at_builtin; refine Kd.yD (Kd.int .u8) (w0 := w) w.heap.size rfl (.const (.slice none 0 0)) (.tmp 5) 59 5 (.int .u8 0) 1 rfl Tryz.underlying59 info5 rfl (by decide) (by omega) (.slice none 0 0) ([] : List Int) l0 _ _ _ (fun _ => True) (fun _ => False) rfl rfl ?aO ?aR (fun _ _ h => h) (fun _ h => h.elim) ?aF ?aB ?aS ?aL ?_; (case aR => repeat (first | exact HR0.out | (with_reducible refine Kd.yC ?_ _) | (with_reducible refine Kd.yF ?_ _) | (with_reducible refine Kd.xe ?_))); (case aB => exact (HB.out)); (case aF => exact (fun _ _ => trivial)); (case aO => exact ((Kd.ql _ _ _ _ (fun _ => True)))); (case aS => exact (zt (HB.out))); (case aL => have := LMc3.out; omega); intro v637 w5 ho hb hg hat; rw [← Ny636.out] at ho; replace HB := ze.mk (hb); have HO638 := ze.mk (ho); clear ho hb hg hat) | ((with_reducible refine zN (N := 13) rfl ?_); refine Kd.vw (Kd.int .u8) _ 5 ?hg (N := 13) ?hd (xs := ([(IntKind.u16.wrap (Int.tdiv a1 256)) % 256, (Int.tmod a1 256) % 256] : List Int)) (inner := [.int .u8 ((IntKind.u16.wrap (Int.tdiv a1 256)) % 256), .int .u8 ((Int.tmod a1 256) % 256)]) (ok := fun _ => True) (okp := fun _ => True) ?hr ?hp (fun _ hk => hk) trivial (Below.refl _ _) (Nat.le_refl _) (by simp) ?_; (case hd => rfl); (case hg => rfl); (case hr => first | (go_simp; done) | (go_simp; rfl)); (case hp => exact (yJ.one (show Kd.M (Kd.int .u8) _ _ _ ((IntKind.u16.wrap (Int.tdiv a1 256)) % 256) [.int .u8 ((IntKind.u16.wrap (Int.tdiv a1 256)) % 256)] from rfl) (yJ.one (show Kd.M (Kd.int .u8) _ _ _ ((Int.tmod a1 256) % 256) [.int .u8 ((Int.tmod a1 256) % 256)] from rfl) (yJ.none _ _)))); intro v640 w6 ho7 hb hg_ hnew_; clear hg_ hnew_; (first | rw [← Ny639.out] at ho7 | (simp only [Int.reduceToNat] at ho7; rw [← Ny639.out] at ho7)); have HO641 := ze.mk (Kd.zU (Kd.ZU ho7 (Kd.Xb (HO638.out))) (zt (HB.out))); replace HO638 := ze.mk (Kd.kK (HO638.out) (Kd.kg ho7) hb); replace HB := ze.mk (zG (HB.out) hb); clear hb ho7; obtain ⟨Ao9, co9, eo9⟩ := Kd.yc HO641.out; subst eo9) | ((with_reducible refine yj (b := .append) (xs := #[.tmp 6, .tmp 13]) rfl ?_); at_builtin; refine Kd.yD (Kd.int .u8) (w0 := w) w.heap.size rfl (.tmp 6) (.tmp 13) 59 5 (.int .u8 0) 1 rfl Tryz.underlying59 info5 rfl (by decide) (by omega) v637 y636 y639 _ _ _ (fun k_ => some k_ ≠ (.slice Ao9 y639.length co9 : Value).ownBlock) (fun _ => False) rfl rfl ?aO ?aR (fun _ _ h => h) (fun _ h => h.elim) ?aF ?aB ?aS ?aL ?_; (case aR => repeat (first | exact (Kd.zB HO641.out).2.2 | (with_reducible refine Kd.yC ?_ _) | (with_reducible refine Kd.yF ?_ _) | (with_reducible refine Kd.xe ?_))); (case aB => exact (HB.out)); (case aF => exact (fun k_ hk => Kd.fresh' (Kd.Xb (HO641.out)) k_ hk)); (case aO => exact (Kd.yX HO638.out (fun _ hk => by first | exact hk.2 | exact hk))); (case aS => exact (zt (HB.out))); (case aL => have := LMc4.out; omega); intro v643 w8 ho hb hg hat; rw [← Ny642.out] at ho; replace HO641 := ze.mk (Kd.vT (ok := (fun _ => True)) (HO641.out) hg hat); replace HB := ze.mk (hb); have HO644 := ze.mk (ho); clear HO638; clear ho hb hg hat))
   go_ret
   exact ⟨_, by first | rfl | (simp [zC, zD] <;> rfl) | (simp [*, zC, zD] <;> rfl), Kd.yX HO644.out (fun _ hk => trivial), HB.out⟩
  ·
   rw [if_neg c4] at H
   exact absurd H (by simp)
 ·
  rw [if_neg c3] at H
  exact absurd H (by simp)
def yH.f (l0 : List Int) (a1 : Int) : Option (List Int) := (xC.f l0 (IntKind.u16.wrap (a1))).bind fun t645 => (some t645)
theorem yH.calls (A0 : Option Addr) (c0 : Nat) (l0 : List Int) (a1 : Int) (r : List Int) (w : World) (hr0 : Kd.C (Kd.int .u8) w A0 l0.length l0) (hc0 : l0.length ≤ c0) (h : yH.f l0 a1 = some r) :
  Calls Tryz.prog 118 #[.slice A0 l0.length c0, .int .i64 a1] w fun e w' => ∃ v0_ : Value, e = .returned (v0_) ∧ Kd.R (Kd.int .u8) 5 w' w.heap.size (fun _ => True) v0_ r ∧ Below w.heap.size w w' := by
 have HR0 := ze.mk hr0
 have HC0 := ze.mk hc0
 clear hr0 hc0
 have HB := ze.mk (Below.refl w.heap.size w)
 have H : ((xC.f l0 (IntKind.u16.wrap (a1))).bind fun t645 => (some t645)) = some r := h
 clear h
 replace H := Option.bind_eq_some_iff.mp H
 obtain ⟨t645, A30, H⟩ := H
 have A3 := ze.mk A30
 clear A30
 obtain rfl := Option.some.inj H
 go_enter Tryz.func118, Tryz.ntmps118
 go_wp2_with (first | ((with_reducible refine zO (f := 156) rfl ?_); refine yL (some 8) rfl rfl Tryz.func156 (by kernel_rfl) rfl #[.slice A0 l0.length c0, .int .u16 (IntKind.u16.wrap (a1))] rfl (by (try simp only [List.map_toArray, List.map_cons, List.map_nil]); first | done | rfl | (simp only [List.length_drop, List.length_take]; rfl)) ?_; (with_reducible refine (xC.calls _ _ l0 (IntKind.u16.wrap (a1)) t645 _ ?side1 ?side2 A3.out).mono ?_); (case side1 => repeat (first | exact HR0.out | (with_reducible refine Kd.yC ?_ _) | (with_reducible refine Kd.yF ?_ _) | (with_reducible refine Kd.xe ?_))); (case side2 => exact HC0.out); rintro e w4 ⟨v646, rfl, ho0, hb⟩; refine ⟨_, rfl, ?_⟩; have HO647 := ze.mk (Kd.zU ho0 (zt (HB.out))); replace HB := ze.mk (zG (HB.out) hb); (try clear hb); (try clear ho0)))
 go_ret
 exact ⟨_, by first | rfl | (simp [zC, zD] <;> rfl) | (simp [*, zC, zD] <;> rfl), by (with_reducible repeat (first | apply Kd.qg | apply Kd.qc | apply Kd.vg)); exact HO647.out, HB.out⟩
def xk.f (l0 : List Int) (a1 : Int) : Option (Int × Bool) := if a1 < 0 then (some (0, false)) else (if a1 > (wrap64 ((l0.length : Int) - 2)) then (some (0, false)) else (if 0 ≤ a1 then (if a1 < (l0.length : Int) then (if 0 ≤ (wrap64 (a1 + 1)) then (if (wrap64 (a1 + 1)) < (l0.length : Int) then (some (IntKind.u16.wrap ((IntKind.u16.wrap ((IntKind.u16.wrap (rd l0 a1)) * 256)) + (IntKind.u16.wrap (rd l0 (wrap64 (a1 + 1))))), true)) else (none)) else (none)) else (none)) else (none)))
theorem xk.calls (A0 : Option Addr) (c0 : Nat) (l0 : List Int) (a1 : Int) (r1 : Int) (r2 : Bool) (w : World) (hr0 : Kd.C (Kd.int .u8) w A0 l0.length l0) (hc0 : l0.length ≤ c0) (h : xk.f l0 a1 = some (r1, r2)) :
  Calls Tryz.prog 123 #[.slice A0 l0.length c0, .int .i64 a1] w fun e w' => e = .returned (.tuple #[.int .u16 r1, .bool r2]) ∧ zw w w' := by
 have HR0 := ze.mk hr0
 have HC0 := ze.mk hc0
 clear hr0 hc0
 have H : (if a1 < 0 then (some (0, false)) else (if a1 > (wrap64 ((l0.length : Int) - 2)) then (some (0, false)) else (if 0 ≤ a1 then (if a1 < (l0.length : Int) then (if 0 ≤ (wrap64 (a1 + 1)) then (if (wrap64 (a1 + 1)) < (l0.length : Int) then (some (IntKind.u16.wrap ((IntKind.u16.wrap ((IntKind.u16.wrap (rd l0 a1)) * 256)) + (IntKind.u16.wrap (rd l0 (wrap64 (a1 + 1))))), true)) else (none)) else (none)) else (none)) else (none)))) = some (r1, r2) := h
 clear h
 by_cases c3 : a1 < 0
 ·
  rw [if_pos c3] at H
  have c3b0 : decide (a1 < 0) = true := dT c3
  clear c3
  simp only [Option.some.injEq, Prod.mk.injEq] at H
  obtain ⟨rfl, rfl⟩ := H
  go_enter Tryz.func123, Tryz.ntmps123
  go_wp2
  repeat (go_quiet (fail); try go_wp2)
  go_ret2
  exact ⟨by first | rfl | (simp; done) | (simp [*]; done), by repeat (first | exact zw.refl _ | apply zw.step)⟩
 ·
  rw [if_neg c3] at H
  have c3b0 : decide (a1 < 0) = false := dF c3
  clear c3
  by_cases c4 : a1 > (wrap64 ((l0.length : Int) - 2))
  ·
   rw [if_pos c4] at H
   have c4b0 : decide ((wrap64 ((l0.length : Int) - 2)) < a1) = true := dT c4
   clear c4
   simp only [Option.some.injEq, Prod.mk.injEq] at H
   obtain ⟨rfl, rfl⟩ := H
   go_enter Tryz.func123, Tryz.ntmps123
   go_wp2
   repeat (go_quiet (fail); try go_wp2)
   go_ret2
   exact ⟨by first | rfl | (simp; done) | (simp [*]; done), by repeat (first | exact zw.refl _ | apply zw.step)⟩
  ·
   rw [if_neg c4] at H
   have c4b0 : decide ((wrap64 ((l0.length : Int) - 2)) < a1) = false := dF c4
   clear c4
   by_cases c5 : 0 ≤ a1
   ·
    rw [if_pos c5] at H
    have c5b0 : decide (0 ≤ a1) = true := dT c5
    clear c5
    by_cases c6 : a1 < (l0.length : Int)
    ·
     rw [if_pos c6] at H
     have c6b0 : decide (a1 < (l0.length : Int)) = true := dT c6
     clear c6
     obtain ⟨ji7, hji7⟩ : ∃ j_ : Int, (wrap64 (a1 + 1)) = j_ := ⟨_, rfl⟩
     replace H : (if 0 ≤ (ji7) then (if (ji7) < (l0.length : Int) then (some (IntKind.u16.wrap ((IntKind.u16.wrap ((IntKind.u16.wrap (rd l0 a1)) * 256)) + (IntKind.u16.wrap (rd l0 (ji7)))), true)) else (none)) else (none)) = some (r1, r2) := by first | (rw [hji7] at H; exact H) | (simp only [hji7] at H ⊢; exact H)
     have hji7w : (IntKind.i64.wrap (a1 + 1)) = ji7 := (xy _).trans hji7
     by_cases c8 : 0 ≤ (ji7)
     ·
      rw [if_pos c8] at H
      have c8b0 : decide (0 ≤ (ji7)) = true := dT c8
      clear c8
      by_cases c9 : (ji7) < (l0.length : Int)
      ·
       rw [if_pos c9] at H
       have c9b0 : decide ((ji7) < (l0.length : Int)) = true := dT c9
       clear c9
       simp only [Option.some.injEq, Prod.mk.injEq] at H
       obtain ⟨rfl, rfl⟩ := H
       have p790 : 0 ≤ (a1 : Int) := of_decide_eq_true (by first | (with_reducible assumption) | assumption)
       have q790 : a1 < (l0.length : Int) := of_decide_eq_true (by first | (with_reducible assumption) | assumption)
       obtain ⟨ad790, e790, hx790_0⟩ := Kd.qH HR0.out a1 p790 q790
       cases e790
       replace p790 := eq_true p790
       replace q790 := eq_true q790
       have p791 : 0 ≤ ((ji7) : Int) := of_decide_eq_true (by first | (with_reducible assumption) | assumption)
       have q791 : (ji7) < (l0.length : Int) := of_decide_eq_true (by first | (with_reducible assumption) | assumption)
       obtain ⟨ad791, e791, hx791_0⟩ := Kd.qH HR0.out (ji7) p791 q791
       obtain rfl : ad790 = ad791 := (by injection e791)
       replace p791 := eq_true p791
       replace q791 := eq_true q791
       go_enter Tryz.func123, Tryz.ntmps123
       go_wp2
       repeat (go_quiet (fail); try go_wp2)
       go_ret2
       exact ⟨by first | rfl | (simp; done) | (simp only [← hji7] <;> (first | rfl | simp)) | (simp [*]; done), by repeat (first | exact zw.refl _ | apply zw.step)⟩
      ·
       rw [if_neg c9] at H
       exact absurd H (by simp)
     ·
      rw [if_neg c8] at H
      exact absurd H (by simp)
    ·
     rw [if_neg c6] at H
     exact absurd H (by simp)
   ·
    rw [if_neg c5] at H
    exact absurd H (by simp)
def zP.f (l0 : List Int) (a1 : Int) : Option (Int) := (xk.f l0 a1).bind fun bt792 => (some (wrap64 (bt792.1)))
theorem zP.calls (A0 : Option Addr) (c0 : Nat) (l0 : List Int) (a1 : Int) (r : Int) (w : World) (hr0 : Kd.C (Kd.int .u8) w A0 l0.length l0) (hc0 : l0.length ≤ c0) (h : zP.f l0 a1 = some r) :
  Calls Tryz.prog 81 #[.slice A0 l0.length c0, .int .i64 a1] w fun e w' => e = .returned (.int .i64 r) ∧ zw w w' := by
 have HR0 := ze.mk hr0
 have HC0 := ze.mk hc0
 clear hr0 hc0
 have H : ((xk.f l0 a1).bind fun bt792 => (some (wrap64 (bt792.1)))) = some r := h
 clear h
 replace H := Option.bind_eq_some_iff.mp H
 obtain ⟨⟨t792, t793⟩, A30, H⟩ := H
 replace H : (some (wrap64 (t792))) = some r := H
 have A3 := ze.mk A30
 clear A30
 obtain rfl := Option.some.inj H
 go_enter Tryz.func81, Tryz.ntmps81
 go_wp2_with (first | ((with_reducible refine zO (f := 123) rfl ?_); refine yL (some 10) rfl rfl Tryz.func123 (by kernel_rfl) rfl #[.slice A0 l0.length c0, .int .i64 a1] rfl (by (try simp only [List.map_toArray, List.map_cons, List.map_nil]); first | done | rfl | (simp only [List.length_drop, List.length_take]; rfl)) ?_; (with_reducible refine (xk.calls _ _ l0 a1 t792 t793 _ ?side1 ?side2 A3.out).mono ?_); (case side1 => repeat (first | exact HR0.out | (with_reducible refine Kd.yC ?_ _) | (with_reducible refine Kd.yF ?_ _) | (with_reducible refine Kd.xe ?_))); (case side2 => exact HC0.out); rintro e w' ⟨rfl, ⟨nd, rfl⟩⟩; refine ⟨_, rfl, ?_⟩))
 go_ret
 exact ⟨by first | rfl | (simp; done) | (simp [*]; done), by repeat (first | exact zw.refl _ | apply zw.step)⟩
def zA.j0 : Nat → List Int → Int → Bool → Option (Int × Int × Int × Int)
 | 0, _, _, _ => none
 | k + 1, x0, x4, x21 => if x21 = true then (some (0, 0, 0, 2)) else (if (x0.length : Int) = 6 then (some (0, 0, 0, 3)) else ((zP.f x0 0).bind fun t797 => (if 6 < (x0.length : Int) then (some (t797, x4, wrap64 (rd x0 6), 0)) else (none))))
def zA.f (k : Nat) (l0 : List Int) : Option (Int × Int × Int × Int) := if (l0.length : Int) < 6 then (some (0, 0, 0, 3)) else ((zP.f l0 4).bind fun t795 => ((zP.f l0 2).bind fun t796 => (if t796 = 0 then (if t795 < 2 then (zA.j0 k l0 t795 true) else (zA.j0 k l0 t795 (decide (t795 > 254)))) else (zA.j0 k l0 t795 true))))
def zA.T8 : Bool × List (List Nat × List Nat) := (true, [([], []), ([0], [0]), ([], []), ([], []), ([3], [3]), ([4], [4]), ([5], [5]), ([1, 2, 6], [1, 2, 6]), ([7, 1, 0, 1, 2, 3, 4, 5, 6, 7], [7]), ([8, 0, 1, 2, 3, 4, 5, 6, 7, 8], [])])
def zA.B8 : List Nat := [0, 1, 0, 0, 8, 24, 56, 127, 255, 511]
theorem zA.tab8 : jA .any (opsOf Tryz.f43 8) = zA.T8 := by kernel_rfl
theorem zA.bits8 : jo zA.T8.2 zA.B8 = true := by kernel_rfl
theorem zA.calls (k : Nat) (A0 : Option Addr) (c0 : Nat) (l0 : List Int) (r1 : Int) (r2 : Int) (r3 : Int) (r4 : Int) (w : World) (hr0 : Kd.C (Kd.int .u8) w A0 l0.length l0) (hc0 : l0.length ≤ c0) (h : zA.f k l0 = some (r1, r2, r3, r4)) :
  Calls Tryz.prog 43 #[.slice A0 l0.length c0] w fun e w' => e = .returned (.tuple #[.agg #[.int .i64 r1, .int .i64 r2, .int .i64 r3], .int .i64 r4]) ∧ Below w.heap.size w w' := by
 have hu110 := Tryz.underlying110
 have HR0 := ze.mk hr0
 have HC0 := ze.mk hc0
 clear hr0 hc0
 have HB := ze.mk (Below.refl w.heap.size w)
 have H : (if (l0.length : Int) < 6 then (some (0, 0, 0, 3)) else ((zP.f l0 4).bind fun t795 => ((zP.f l0 2).bind fun t796 => (if t796 = 0 then (if t795 < 2 then (zA.j0 k l0 t795 true) else (zA.j0 k l0 t795 (decide (t795 > 254)))) else (zA.j0 k l0 t795 true))))) = some (r1, r2, r3, r4) := h
 clear h
 by_cases c2 : (l0.length : Int) < 6
 ·
  rw [if_pos c2] at H
  have c2b0 : decide ((l0.length : Int) < 6) = true := dT c2
  have c2b1 : decide (l0.length < 6) = true := decide_eq_true (by omega)
  clear c2
  simp only [Option.some.injEq, Prod.mk.injEq] at H
  obtain ⟨rfl, rfl, rfl, rfl⟩ := H
  go_enter Tryz.func43, Tryz.ntmps43
  go_wp2_with (first | ((with_reducible refine zN (N := 2) rfl ?_); refine yf ?hg (N := 2) ?hd (cs := #[.int .i64 0, .int .i64 0, .int .i64 0]) (t := 110) ?hr ?_; (case hd => rfl); (case hg => rfl); (case hr => first | (go_simp; done) | (go_simp; rfl)); intro gb794 hg w3 hbox hb; have BK794 := ze.mk (hbox); have GW794 := ze.mk ((by rw [hg]; exact (zt (HB.out)) : w.heap.size ≤ gb794)); have GE794 := ze.mk ((by rw [hg]; exact (zt (HB.out)) : w.heap.size ≤ gb794)); replace HB := ze.mk (zG (HB.out) hb); clear hb hbox hg; obtain ⟨hcz4_0, hcz4_1, hcz4_2⟩ := zS BK794.out; obtain ⟨hfz4_0, hfz4_1, hfz4_2⟩ := xD BK794.out))
  refine bodyPost_ret (qL rfl _ _ gb794 110 #[.int .i64 0, .int .i64 0, .int .i64 0] (0, 0) _ rfl (by (with_reducible repeat (first | refine zm ?_ _ | refine zn ?_ | refine zg ?_ _)); refine zQ (cs := #[.int .i64 0, .int .i64 0, .int .i64 0]) ?_ 2 _ rfl; (with_reducible repeat (first | refine zm ?_ _ | refine zn ?_ | refine zg ?_ _)); refine zQ (cs := #[.int .i64 0, .int .i64 0, .int .i64 0]) ?_ 1 _ rfl; (with_reducible repeat (first | refine zm ?_ _ | refine zn ?_ | refine zg ?_ _)); refine zQ (cs := #[.int .i64 0, .int .i64 0, .int .i64 0]) ?_ 0 _ rfl; (with_reducible repeat (first | refine zm ?_ _ | refine zn ?_ | refine zg ?_ _)); exact BK794.out) Tryz.underlying110 rfl (by kernel_rfl)) rfl ?_
  exact ⟨by first | rfl | (simp [zC, zD] <;> rfl) | (simp [*, zC, zD] <;> rfl), by repeat (first | (with_reducible first | exact HB.out | apply zy | apply zq | apply zI | refine zM ?_ GE794.out) | exact HB.out)⟩
 ·
  rw [if_neg c2] at H
  have c2b0 : decide ((l0.length : Int) < 6) = false := dF c2
  have c2b1 : decide (l0.length < 6) = false := decide_eq_false (by omega)
  clear c2
  replace H := Option.bind_eq_some_iff.mp H
  obtain ⟨t795, A50, H⟩ := H
  have A5 := ze.mk A50
  clear A50
  have HC6 := ze.mk H
  clear H
  go_enter Tryz.func43, Tryz.ntmps43
  go_upto_region 4 with (first | ((with_reducible refine zN (N := 2) rfl ?_); refine yf ?hg (N := 2) ?hd (cs := #[.int .i64 0, .int .i64 0, .int .i64 0]) (t := 110) ?hr ?_; (case hd => rfl); (case hg => rfl); (case hr => first | (go_simp; done) | (go_simp; rfl)); intro gb794 hg w7 hbox hb; have BK794 := ze.mk (hbox); have GW794 := ze.mk ((by rw [hg]; exact (zt (HB.out)) : w.heap.size ≤ gb794)); have GE794 := ze.mk ((by rw [hg]; exact (zt (HB.out)) : w.heap.size ≤ gb794)); replace HB := ze.mk (zG (HB.out) hb); clear hb hbox hg) | ((with_reducible refine zO (f := 81) rfl ?_); refine yL (some 10) rfl rfl Tryz.func81 (by kernel_rfl) rfl #[.slice A0 l0.length c0, .int .i64 4] rfl (by (try simp only [List.map_toArray, List.map_cons, List.map_nil]); first | done | rfl | (simp only [List.length_drop, List.length_take]; rfl)) ?_; (with_reducible refine (zP.calls _ _ l0 4 t795 _ ?side1 ?side2 A5.out).mono ?_); (case side1 => repeat (first | exact (Kd.zx HR0.out HB.out) | (with_reducible refine Kd.yC ?_ _) | (with_reducible refine Kd.yF ?_ _) | (with_reducible refine Kd.xe ?_))); (case side2 => exact HC0.out); rintro e w' ⟨rfl, ⟨nd, rfl⟩⟩; refine ⟨_, rfl, ?_⟩))
  (try simp only [Act.put, List.setIfInBounds_toArray, List.set_cons_zero, List.set_cons_succ])
  go_cut [21] (fun v21 wc => ∃ (kq : Nat) (x21_5 : Bool), v21 = .bool x21_5 ∧ ze (zA.j0 kq l0 t795 x21_5 = some (r1, r2, r3, r4)) ∧ ze (kq ≤ k) ∧ ze (wc.heap[gb794]? = some (.cells #[.int .i64 0, .int .i64 0, .int .i64 0] 110 (0, 0))) ∧ ze (Below w.heap.size w wc))
  case first =>
   have H := HC6.out
   clear HC6
   replace H := Option.bind_eq_some_iff.mp H
   obtain ⟨t796, A80, H⟩ := H
   have A8 := ze.mk A80
   clear A80
   by_cases c9 : t796 = 0
   ·
    rw [if_pos c9] at H
    have c9b0 : (t796 == 0) = true := beq_iff_eq.mpr c9
    have c9b1 : (t796 != 0) = false := bne_eq_false_iff_eq.mpr c9
    clear c9
    (first | rw [c9b0] | (simp only [xy, xV]; rw [c9b0]) | skip)
    by_cases c10 : t795 < 2
    ·
     rw [if_pos c10] at H
     have c10b0 : decide (t795 < 2) = true := dT c10
     clear c10
     have H' := ze.mk H
     clear H
     go_wp2_with (first | ((with_reducible refine zO (f := 81) rfl ?_); refine yL (some 12) rfl rfl Tryz.func81 (by kernel_rfl) rfl #[.slice A0 l0.length c0, .int .i64 2] rfl (by (try simp only [List.map_toArray, List.map_cons, List.map_nil]); first | done | rfl | (simp only [List.length_drop, List.length_take]; rfl)) ?_; (with_reducible refine (zP.calls _ _ l0 2 t796 _ ?side1 ?side2 A8.out).mono ?_); (case side1 => repeat (first | exact (Kd.zx HR0.out HB.out) | (with_reducible refine Kd.yC ?_ _) | (with_reducible refine Kd.yF ?_ _) | (with_reducible refine Kd.xe ?_))); (case side2 => exact HC0.out); rintro e w' ⟨rfl, ⟨nd, rfl⟩⟩; refine ⟨_, rfl, ?_⟩))
     go_meet
     case rel => exact ⟨_, (true), (by first | rfl | (simp; done) | (simp [*]; done)), H', ⟨by first | omega | exact Nat.le_refl _⟩, ⟨by (with_reducible repeat (first | refine zm ?_ _ | refine zn ?_ | refine zg ?_ _)); exact BK794.out⟩, ⟨by repeat (first | (with_reducible first | exact HB.out | apply zy | apply zq | apply zI | refine zM ?_ GE794.out) | exact HB.out)⟩⟩
    ·
     rw [if_neg c10] at H
     have c10b0 : decide (t795 < 2) = false := dF c10
     clear c10
     have H' := ze.mk H
     clear H
     go_wp2_with (first | ((with_reducible refine zO (f := 81) rfl ?_); refine yL (some 12) rfl rfl Tryz.func81 (by kernel_rfl) rfl #[.slice A0 l0.length c0, .int .i64 2] rfl (by (try simp only [List.map_toArray, List.map_cons, List.map_nil]); first | done | rfl | (simp only [List.length_drop, List.length_take]; rfl)) ?_; (with_reducible refine (zP.calls _ _ l0 2 t796 _ ?side1 ?side2 A8.out).mono ?_); (case side1 => repeat (first | exact (Kd.zx HR0.out HB.out) | (with_reducible refine Kd.yC ?_ _) | (with_reducible refine Kd.yF ?_ _) | (with_reducible refine Kd.xe ?_))); (case side2 => exact HC0.out); rintro e w' ⟨rfl, ⟨nd, rfl⟩⟩; refine ⟨_, rfl, ?_⟩))
     go_meet
     case rel => exact ⟨_, (decide (t795 > 254)), (by first | rfl | (simp; done) | (simp [*]; done)), H', ⟨by first | omega | exact Nat.le_refl _⟩, ⟨by (with_reducible repeat (first | refine zm ?_ _ | refine zn ?_ | refine zg ?_ _)); exact BK794.out⟩, ⟨by repeat (first | (with_reducible first | exact HB.out | apply zy | apply zq | apply zI | refine zM ?_ GE794.out) | exact HB.out)⟩⟩
   ·
    rw [if_neg c9] at H
    have c9b0 : (t796 == 0) = false := beq_eq_false_iff_ne.mpr c9
    have c9b1 : (t796 != 0) = true := bne_iff_ne.mpr c9
    (first | rw [c9b0] | (simp only [xy, xV]; rw [c9b0]) | skip)
    have H' := ze.mk H
    clear H
    go_wp2_with (first | ((with_reducible refine zO (f := 81) rfl ?_); refine yL (some 12) rfl rfl Tryz.func81 (by kernel_rfl) rfl #[.slice A0 l0.length c0, .int .i64 2] rfl (by (try simp only [List.map_toArray, List.map_cons, List.map_nil]); first | done | rfl | (simp only [List.length_drop, List.length_take]; rfl)) ?_; (with_reducible refine (zP.calls _ _ l0 2 t796 _ ?side1 ?side2 A8.out).mono ?_); (case side1 => repeat (first | exact (Kd.zx HR0.out HB.out) | (with_reducible refine Kd.yC ?_ _) | (with_reducible refine Kd.yF ?_ _) | (with_reducible refine Kd.xe ?_))); (case side2 => exact HC0.out); rintro e w' ⟨rfl, ⟨nd, rfl⟩⟩; refine ⟨_, rfl, ?_⟩))
    go_meet
    case rel => exact ⟨_, (true), (by first | rfl | (simp; done) | (simp [*]; done)), H', ⟨by first | omega | exact Nat.le_refl _⟩, ⟨by (with_reducible repeat (first | refine zm ?_ _ | refine zn ?_ | refine zg ?_ _)); exact BK794.out⟩, ⟨by repeat (first | (with_reducible first | exact HB.out | apply zy | apply zq | apply zI | refine zM ?_ GE794.out) | exact HB.out)⟩⟩
  case rest =>
   clear HC6
   (try clear c2b0); (try clear c2b1); (try clear hfz4_2)
   obtain ⟨kq, x21_5, rfl, HA, HJ5, BK794, HB⟩ := hcut
   cases kq with
   | zero => exact absurd HA.out (by simp [zA.j0])
   | succ kj5 =>
    have H := HA.out
    clear HA
    simp only [zA.j0] at H
    by_cases c11 : x21_5 = true
    ·
     subst c11
     have H1 : (some (0, 0, 0, 2)) = some (r1, r2, r3, r4) := by rw [if_pos rfl] at H; exact H
     clear H
     have H := H1
     clear H1
     simp only [Option.some.injEq, Prod.mk.injEq] at H
     obtain ⟨rfl, rfl, rfl, rfl⟩ := H
     obtain ⟨hcz12_0, hcz12_1, hcz12_2⟩ := zS BK794.out
     obtain ⟨hfz12_0, hfz12_1, hfz12_2⟩ := xD BK794.out
     go_wp2
     refine bodyPost_ret (qL rfl _ _ gb794 110 #[.int .i64 0, .int .i64 0, .int .i64 0] (0, 0) _ rfl (by (with_reducible repeat (first | refine zm ?_ _ | refine zn ?_ | refine zg ?_ _)); refine zQ (cs := #[.int .i64 0, .int .i64 0, .int .i64 0]) ?_ 2 _ rfl; (with_reducible repeat (first | refine zm ?_ _ | refine zn ?_ | refine zg ?_ _)); refine zQ (cs := #[.int .i64 0, .int .i64 0, .int .i64 0]) ?_ 1 _ rfl; (with_reducible repeat (first | refine zm ?_ _ | refine zn ?_ | refine zg ?_ _)); refine zQ (cs := #[.int .i64 0, .int .i64 0, .int .i64 0]) ?_ 0 _ rfl; (with_reducible repeat (first | refine zm ?_ _ | refine zn ?_ | refine zg ?_ _)); exact BK794.out) Tryz.underlying110 rfl (by kernel_rfl)) rfl ?_
     exact ⟨by first | rfl | (simp [zC, zD] <;> rfl) | (simp [*, zC, zD] <;> rfl), by repeat (first | (with_reducible first | exact HB.out | apply zy | apply zq | apply zI | refine zM ?_ GE794.out) | exact HB.out)⟩
    ·
     replace c11 := Bool.eq_false_iff.mpr c11
     subst c11
     have H1 : (if (l0.length : Int) = 6 then (some (0, 0, 0, 3)) else ((zP.f l0 0).bind fun t797 => (if 6 < (l0.length : Int) then (some (t797, t795, wrap64 (rd l0 6), 0)) else (none)))) = some (r1, r2, r3, r4) := by rw [if_neg (show ¬ (false = true) by decide)] at H; exact H
     clear H
     have H := H1
     clear H1
     by_cases c13 : (l0.length : Int) = 6
     ·
      rw [if_pos c13] at H
      have c13b0 : ((l0.length : Int) == 6) = true := beq_iff_eq.mpr c13
      have c13b1 : ((l0.length : Int) != 6) = false := bne_eq_false_iff_eq.mpr c13
      clear c13
      simp only [Option.some.injEq, Prod.mk.injEq] at H
      obtain ⟨rfl, rfl, rfl, rfl⟩ := H
      obtain ⟨hcz14_0, hcz14_1, hcz14_2⟩ := zS BK794.out
      obtain ⟨hfz14_0, hfz14_1, hfz14_2⟩ := xD BK794.out
      go_wp2
      refine bodyPost_ret (qL rfl _ _ gb794 110 #[.int .i64 0, .int .i64 0, .int .i64 0] (0, 0) _ rfl (by (with_reducible repeat (first | refine zm ?_ _ | refine zn ?_ | refine zg ?_ _)); refine zQ (cs := #[.int .i64 0, .int .i64 0, .int .i64 0]) ?_ 2 _ rfl; (with_reducible repeat (first | refine zm ?_ _ | refine zn ?_ | refine zg ?_ _)); refine zQ (cs := #[.int .i64 0, .int .i64 0, .int .i64 0]) ?_ 1 _ rfl; (with_reducible repeat (first | refine zm ?_ _ | refine zn ?_ | refine zg ?_ _)); refine zQ (cs := #[.int .i64 0, .int .i64 0, .int .i64 0]) ?_ 0 _ rfl; (with_reducible repeat (first | refine zm ?_ _ | refine zn ?_ | refine zg ?_ _)); exact BK794.out) Tryz.underlying110 rfl (by kernel_rfl)) rfl ?_
      exact ⟨by first | rfl | (simp [zC, zD] <;> rfl) | (simp [*, zC, zD] <;> rfl), by repeat (first | (with_reducible first | exact HB.out | apply zy | apply zq | apply zI | refine zM ?_ GE794.out) | exact HB.out)⟩
     ·
      rw [if_neg c13] at H
      have c13b0 : ((l0.length : Int) == 6) = false := beq_eq_false_iff_ne.mpr c13
      have c13b1 : ((l0.length : Int) != 6) = true := bne_iff_ne.mpr c13
      replace H := Option.bind_eq_some_iff.mp H
      obtain ⟨t797, A150, H⟩ := H
      have A15 := ze.mk A150
      clear A150
      by_cases c16 : 6 < (l0.length : Int)
      ·
       rw [if_pos c16] at H
       have c16b0 : decide (6 < (l0.length : Int)) = true := dT c16
       have c16b1 : decide (6 < l0.length) = true := decide_eq_true (by omega)
       clear c16
       simp only [Option.some.injEq, Prod.mk.injEq] at H
       obtain ⟨rfl, rfl, rfl, rfl⟩ := H
       try go_wp2
       have n0_ := ze.mk (zn BK794.out)
       have n1_ := ze.mk (zI HB.out)
       clear BK794
       clear HB
       have BK794 := n0_
       have HB := n1_
       clear n0_ n1_
       have p798 : 0 ≤ (6 : Int) := (by omega)
       have q798 : 6 < (l0.length : Int) := of_decide_eq_true (by first | (with_reducible assumption) | assumption)
       obtain ⟨ad798, e798, hx798_0⟩ := Kd.qH HR0.out 6 p798 q798
       have hw798_0 := hx798_0
       (try rw [show ((6 : Int)).toNat = 6 from rfl] at hw798_0)
       (try rw [show 6 * 1 = 6 from rfl] at hw798_0)
       (try simp only [Nat.reduceMul, Nat.reduceEqDiff, Go.Addr.add, ↓reduceIte] at hw798_0)
       cases e798
       (try simp only [show (6 : Int).toNat = 6 from rfl, Nat.reduceMul, Nat.reduceEqDiff, Go.Addr.add, ↓reduceIte] at hx798_0)
       have qi798 : (6 < l0.length) = True := eq_true (by omega)
       (try rw [show ((6 : Int)).toNat = 6 from rfl] at hx798_0)
       replace hx798_0 := (HB.out.cell (World.block_lt_of_cell? w _ hx798_0)).trans hx798_0
       replace p798 := eq_true p798
       replace q798 := eq_true q798
       refine vv (n := 10) (S := fun w' => w'.cell? ⟨ad798.block, ad798.off + 6, none⟩ = some (.int .u8 (rd l0 6))) (ds := []) #[false,false,false,false,false,false,false,false,false,false] (by kernel_rfl) rfl rfl (((HB.out.cell (World.block_lt_of_cell? w _ hw798_0)).trans hw798_0)) (fun hHeld => ?_); refine jk zA.tab8 zA.bits8 (fun HT_ HW_ => ?_)
       generalize wc.drew = w17 at BK794 HB hx798_0 hHeld ⊢
       refine pq_ 0 (some 27) ?_ (hc := yo HT_.out (by kernel_rfl))
       refine pq_ 2 (some 29) ?_ (hc := yo HT_.out (by kernel_rfl))
       refine pq_ 3 (some 30) ?_ (hc := yo HT_.out (by kernel_rfl))
       refine pq_ 4 (some 31) ?_ (hc := yo HT_.out (by kernel_rfl))
       refine tq_ 5 (some 32) hHeld ?_ (hc := qd HT_.out HW_.out (by kernel_rfl))
       refine pq_ 6 (some 33) ?_ (hc := yo HT_.out (by kernel_rfl))
       refine oq_ 1 (some 28) (fun K hK => ?_) (hc := jg HT_.out (by kernel_rfl))
       refine yh Tryz.func81 (by kernel_rfl) rfl #[.slice (some ad798) l0.length c0, .int .i64 0] (by rfl) rfl rfl (by (try simp only [List.map_toArray, List.map_cons, List.map_nil]); first | done | rfl | (simp only [List.length_drop, List.length_take]; rfl)) ?_
       with_reducible refine (zP.calls _ _ l0 0 t797 _ ?side1 ?side2 A15.out).mono ?_
       (case side1 => repeat (first | exact (Kd.zx HR0.out HB.out) | (with_reducible refine Kd.yC ?_ _) | (with_reducible refine Kd.yF ?_ _) | (with_reducible refine Kd.xe ?_)))
       (case side2 => exact HC0.out)
       rintro e w' ⟨rfl, ⟨nd, rfl⟩⟩
       refine ⟨_, rfl, ?_⟩
       refine hK.out _ _ (((HB.out.cell (World.block_lt_of_cell? w _ hw798_0)).trans hw798_0)) (fun hHeld => ?_)
       clear hK K
       refine nq_ ?_
       refine pq_ 7 (some 34) ?_ (hc := yo HT_.out (by kernel_rfl))
       refine oq_ 8 (none) (fun K hK => ?_) (hc := jg HT_.out (by kernel_rfl))
       have hs18 : w17.cell? ⟨gb794, 0, none⟩ = some (.int .i64 0) := (za BK794.out 0).trans rfl
       have hfs18 := zh BK794.out 0
       have hs19 : w17.cell? ⟨gb794, 1, none⟩ = some (.int .i64 0) := (za BK794.out 1).trans rfl
       have hfs19 := zh BK794.out 1
       have hs20 : w17.cell? ⟨gb794, 2, none⟩ = some (.int .i64 0) := (za BK794.out 2).trans rfl
       have hfs20 := zh BK794.out 2
       refine jY (w1 := ?_) (by rfl) rfl ?_ ?_
       rotate_left
       ·
        go_simp
        rfl
       refine hK.out _ _ (((cell_far (p := ⟨gb794, _, none⟩) (by first | exact Nat.ne_of_lt (Nat.lt_of_lt_of_le (by have := World.block_lt_of_cell? _ _ hw798_0; first | rwa [add_block] at this | exact this) GW794.out) | (rw [add_block]; exact Nat.ne_of_lt (Nat.lt_of_lt_of_le (by have := World.block_lt_of_cell? _ _ hw798_0; first | rwa [add_block] at this | exact this) GW794.out)) | (show (Addr.add _ _).block ≠ _; rw [add_block]; exact Nat.ne_of_lt (Nat.lt_of_lt_of_le (by have := World.block_lt_of_cell? _ _ hw798_0; first | rwa [add_block] at this | exact this) GW794.out)) | (dsimp only; exact Nat.ne_of_lt (Nat.lt_of_lt_of_le (by have := World.block_lt_of_cell? _ _ hw798_0; first | rwa [add_block] at this | exact this) GW794.out))) _).trans (((cell_far (p := ⟨gb794, _, none⟩) (by first | exact Nat.ne_of_lt (Nat.lt_of_lt_of_le (by have := World.block_lt_of_cell? _ _ hw798_0; first | rwa [add_block] at this | exact this) GW794.out) | (rw [add_block]; exact Nat.ne_of_lt (Nat.lt_of_lt_of_le (by have := World.block_lt_of_cell? _ _ hw798_0; first | rwa [add_block] at this | exact this) GW794.out)) | (show (Addr.add _ _).block ≠ _; rw [add_block]; exact Nat.ne_of_lt (Nat.lt_of_lt_of_le (by have := World.block_lt_of_cell? _ _ hw798_0; first | rwa [add_block] at this | exact this) GW794.out)) | (dsimp only; exact Nat.ne_of_lt (Nat.lt_of_lt_of_le (by have := World.block_lt_of_cell? _ _ hw798_0; first | rwa [add_block] at this | exact this) GW794.out))) _).trans (((cell_far (p := ⟨gb794, _, none⟩) (by first | exact Nat.ne_of_lt (Nat.lt_of_lt_of_le (by have := World.block_lt_of_cell? _ _ hw798_0; first | rwa [add_block] at this | exact this) GW794.out) | (rw [add_block]; exact Nat.ne_of_lt (Nat.lt_of_lt_of_le (by have := World.block_lt_of_cell? _ _ hw798_0; first | rwa [add_block] at this | exact this) GW794.out)) | (show (Addr.add _ _).block ≠ _; rw [add_block]; exact Nat.ne_of_lt (Nat.lt_of_lt_of_le (by have := World.block_lt_of_cell? _ _ hw798_0; first | rwa [add_block] at this | exact this) GW794.out)) | (dsimp only; exact Nat.ne_of_lt (Nat.lt_of_lt_of_le (by have := World.block_lt_of_cell? _ _ hw798_0; first | rwa [add_block] at this | exact this) GW794.out))) _).trans (hHeld))))))) (fun hHeld => ?_)
       clear hK K
       refine pq_ 9 (some 3) ?_ (hc := yo HT_.out (by kernel_rfl))
       refine xJ (vk HT_.out (by kernel_rfl)) ?_
       try go_wp2
       refine bodyPost_ret (qL rfl _ _ gb794 110 #[.int .i64 t797, .int .i64 t795, .int .i64 (wrap64 (rd l0 6))] (0, 0) _ rfl (by (with_reducible repeat (first | refine zm ?_ _ | refine zn ?_ | refine zg ?_ _)); refine zQ (cs := #[.int .i64 t797, .int .i64 t795, .int .i64 0]) ?_ 2 _ rfl; (with_reducible repeat (first | refine zm ?_ _ | refine zn ?_ | refine zg ?_ _)); refine zQ (cs := #[.int .i64 t797, .int .i64 0, .int .i64 0]) ?_ 1 _ rfl; (with_reducible repeat (first | refine zm ?_ _ | refine zn ?_ | refine zg ?_ _)); refine zQ (cs := #[.int .i64 0, .int .i64 0, .int .i64 0]) ?_ 0 _ rfl; (with_reducible repeat (first | refine zm ?_ _ | refine zn ?_ | refine zg ?_ _)); exact BK794.out) Tryz.underlying110 rfl (by kernel_rfl)) rfl ?_
       exact ⟨by first | rfl | (simp [zC, zD] <;> rfl) | (simp [*, zC, zD] <;> rfl), by repeat (first | (with_reducible first | exact HB.out | apply zy | apply zq | apply zI | refine zM ?_ GE794.out) | exact HB.out)⟩
      ·
       rw [if_neg c16] at H
       exact absurd H (by simp)
end Go.Proofs.YtlalbohhopmpdaaGreat.PTop
