/- Words and walks for TopBlind (made of the session's own texts; each part by itself). -/
import Derived.Deep.DeepCutAuto
import Derived.Deep.DeepMust
import Derived.Deep.RegionLaw
import Derived.Test.YtlalbohhopmpdaaGreatZTopBlind19
set_option maxRecDepth 100000
set_option maxHeartbeats 8000000
set_option linter.unusedVariables false
set_option linter.unusedSimpArgs false
namespace Go.Proofs.YtlalbohhopmpdaaGreat.Top
open Go.Proofs.YtlalbohhopmpdaaGreat.Tiny
open Go.RowKit Go.Proofs.YtlalbohhopmpdaaGreat.PTop Go.YW.PrintWords Go.YW.PrintLast Go.YW.PrintMore Go.Proofs.YtlalbohhopmpdaaGreat.Num
open Go.Proofs.YtlalbohhopmpdaaGreat.Ring (yT yt Fr2 Fr3 kr kJ Xn jQ xh qj)
open Go.Proofs.YtlalbohhopmpdaaGreat.LemHeadTop Go.Proofs.YtlalbohhopmpdaaGreat.LemAduTop
attribute [local go_sem] zk zo
theorem QB (w : World) (B N N' : Nat) (x : Ix) (g g' : Sg) (gb dk n : Nat) (L : Nat → Nat → Nat) (Qi Qo : Nat → List Int) (h : zR w B N x g gb dk n L Qi Qo) (hc : 1 < n) (t u m0 : Int) (p bl : List Int) (hb8 : B8 (Qi 1)) (hf : xh jH (Qi 1) false = (t, u, p, m0, 0)) (hp : 0 < p.length) (hnx : (Qi 1).drop m0.toNat = []) (hqo : Qo 1 = []) (hS : jP B N N' x g g' 1 p bl) (hOk : Ok t ((bl.length : Int) + 1) u) :
    Calls Tryz.prog 33 #[.pointer (some ⟨gb, 0, none⟩), .int .i64 1] w fun e w' => e = .returned (.agg #[.bool true, .int .i64 1, .slice none 0 0]) ∧ zR w' B N' x g' gb dk n L (ja Qi 1 []) (ja Qo 1 (hb t ((bl.length : Int) + 1) u ++ bl)) ∧ Ch TG (MS x) B w w' := by
  have hu98 := Tryz.underlying98
  have hu96 := Tryz.underlying96
  have hu95 := Tryz.underlying95
  have hu61 := Tryz.underlying61
  have hu141 := Tryz.underlying141
  have hu30 := Tryz.underlying30
  have B1 := hQ (show Below w.heap.size w (w.alloc (.cells #[.bool false, .int .i64 0, .slice none 0 0] 61)) from (Below.refl _ _).alloc (Nat.le_refl _) _)
  have X1 := hQ (zi w (.cells #[.bool false, .int .i64 0, .slice none 0 0] 61))
  have L1 := hQ (xx.mk' h B1.out X1.out X1.out (by omega) (by omega) (by decide) (by decide))
  have HS := fun (W : World) (hW : zR W B N x g gb dk n L Qi Qo) => jS W B N x g gb dk n L Qi Qo hW 1 hc
  have e1 : (!((xh jH (Qi 1) false).2.2.2.2 == 3)) = true := by rw [hf]; rfl
  have HR := fun (W : World) (hW : zR W B N x g gb dk n L Qi Qo) => kr jH W (L 1 0) (L 1 1) (L 1 2) 1024 (Qi 1) false (hW.fl 1 hc) (ZZ _ hb8)
  rw [e1] at HR
  have HM := fun (W : World) (hW : zR W B N x g gb dk n L Qi Qo) => Xn W (L 1 3) (L 1 4) 1024 (Qo 1) (hW.rg 1 hc)
  have e2 : ((1024 : Nat) : Int) - ((Qo 1).length : Int) = 1024 := by rw [hqo]; rfl
  rw [e2] at HM
  have HN := fun (W : World) (hW : zR W B N x g gb dk n L Qi Qo) => kJ jH W (L 1 0) (L 1 1) (L 1 2) 1024 (Qi 1) false (hW.fl 1 hc) (ZZ _ hb8) t u p m0 0 hf
  have e3 : qj jH (Qi 1) false = ([], false) := by unfold qj; rw [hf]; simp only; rw [if_neg (by decide), hnx]
  rw [e3] at HN
  have HP := hQ hp
  have HV := hQ hS
  have HO := hQ hOk
  have HQ := hQ hqo
  have HC := hQ hc
  have hcells := fun (W : World) (hW : zR W B N x g gb dk n L Qi Qo) => (hW.cells.2.2 1 hc)
  have hfl := fun (W W' : World) (hW : zR W B N x g gb dk n L Qi Qo) (q : List Int) (hw : yT W' (L 1 0) (L 1 1) (L 1 2) 1024 q false) (hf : Fr3 (L 1 0) (L 1 1) (L 1 2) W W') => And.intro (hW.flow hc hw hf) (hW.flowC hc hf)
  clear h hc hb8 hf hp hnx hqo hS hOk e1 e2 e3
  go_enter Tryz.func33, Tryz.ntmps33
  go_wp2_with (fail)
  refine (HS _ L1.out.gt).mono ?_
  rintro e w2 ⟨rfl, hb⟩
  have L2 := hQ (L1.out.below hb)
  have X2 := hQ (zb X1.out hb)
  clear hb HS
  have p0 : w2.cell? ⟨gb, 17, none⟩ = some (.pointer (some ⟨L 1 0, 0, none⟩)) := (hcells _ L2.out.gt).1
  go_wp2_with (fail)
  refine (HR _ L2.out.gt).mono ?_
  rintro e w3 ⟨rfl, hb⟩
  have L3 := hQ (L2.out.below hb)
  have X3 := hQ (zb X2.out hb)
  clear hb HR p0
  have p0 : w3.cell? ⟨gb, 18, none⟩ = some (.pointer (some ⟨L 1 3, 0, none⟩)) := (hcells _ L3.out.gt).2
  go_wp2_with (fail)
  refine (HM _ L3.out.gt).mono ?_
  rintro e w3b ⟨rfl, hb⟩
  have L3b := hQ (L3.out.below hb)
  have X3b := hQ (zb X3.out hb)
  clear hb HM p0
  have p0 : w3b.cell? ⟨gb, 17, none⟩ = some (.pointer (some ⟨L 1 0, 0, none⟩)) := (hcells _ L3b.out.gt).1
  go_wp2_with (fail)
  refine (HN _ L3b.out.gt).mono ?_
  rintro e w4 ⟨Ap, cp, rfl, hR4, hw4, hf4⟩
  obtain ⟨hg4, hc4⟩ := hfl _ _ L3b.out.gt _ hw4 hf4
  have L4 := hQ (L3b.out.step hg4 hc4)
  have X4 := hQ (hc4.cell X3b.out (by decide))
  obtain ⟨g0, cap0, eg, _, _, _⟩ := Kd.qm hR4 HP.out
  obtain ⟨rfl, rfl⟩ : Ap = some ⟨g0, 0, none⟩ ∧ cp = cap0 := by injection eg with h1 h2 h3; exact ⟨h1, h3⟩
  have R4 := hQ hR4
  clear hw4 hf4 hg4 hc4 hR4 eg p0 HN hcells hfl
  go_wp2_with (fail)
  have hb5 : Below w4.heap.size w4 ((w4.alloc (.cells #[.int .i64 t, .int .i64 u, .slice (some ⟨g0, 0, none⟩) p.length cp] 141)).drew) := zl ((Below.refl _ _).alloc (Nat.le_refl _) _)
  have L5 := hQ (L4.out.below hb5)
  have X5 := hQ (zb X4.out hb5)
  have R5 := hQ (Kd.zz R4.out hb5)
  have F5 := hQ (zn (zi w4 (.cells #[.int .i64 t, .int .i64 u, .slice (some ⟨g0, 0, none⟩) p.length cp] 141)))
  obtain ⟨cs, m, gr, o, hk5, hg5, hcf5⟩ := L5.out.gt.blk
  have K5 := hQ hk5
  have HG := hQ hg5
  have CF5 := hQ hcf5
  clear hk5 hg5 hcf5 hb5
  simp only [jP, xR] at HV
  refine sq_ (ds := [13]) #[false, false, false, false, false, false, false, false, false, false, false, false, false, false] (fun w' => w'.cell? ⟨gb, 0, none⟩ = some (m) ∧ w'.cell? ⟨gb, 1, none⟩ = some (gr) ∧ w'.cell? ⟨gb, 2, none⟩ = some (.int .i64 100) ∧ w'.cell? ⟨gb, 3, none⟩ = some (.int .i64 1000) ∧ w'.cell? ⟨gb, 4, none⟩ = some (.int .i64 8) ∧ w'.cell? ⟨gb, 5, none⟩ = some (.int .i64 8) ∧ w'.cell? ⟨gb, 6, none⟩ = some (.int .i64 100000) ∧ w'.cell? ⟨gb, 7, none⟩ = some (.int .i64 500) ∧ w'.cell? ⟨gb, 8, none⟩ = some (.int .i64 2000) ∧ w'.cell? ⟨gb, 9, none⟩ = some (.int .i64 1024) ∧ w'.cell? ⟨gb, 10, none⟩ = some (.int .i64 1024) ∧ w'.cell? ⟨gb, 11, none⟩ = some (.int .u64 0) ∧ w'.cell? ⟨gb, 12, none⟩ = some (o) ∧ w'.cell? ⟨gb, 14, none⟩ = some (.pointer (some ⟨x.ss, 0, none⟩)) ∧ w'.cell? ⟨w4.heap.size, 2, none⟩ = some (.slice (some ⟨g0, 0, none⟩) p.length cp)) ⟨(yn K5.out HG.out).1, (yn K5.out HG.out).2.1, (yn K5.out HG.out).2.2.1, (yn K5.out HG.out).2.2.2.1, (yn K5.out HG.out).2.2.2.2.1, (yn K5.out HG.out).2.2.2.2.2.1, (yn K5.out HG.out).2.2.2.2.2.2.1, (yn K5.out HG.out).2.2.2.2.2.2.2.1, (yn K5.out HG.out).2.2.2.2.2.2.2.2.1, (yn K5.out HG.out).2.2.2.2.2.2.2.2.2.1, (yn K5.out HG.out).2.2.2.2.2.2.2.2.2.2.1, (yn K5.out HG.out).2.2.2.2.2.2.2.2.2.2.2.1, (yn K5.out HG.out).2.2.2.2.2.2.2.2.2.2.2.2.1, (yn K5.out HG.out).2.2.2.2.2.2.2.2.2.2.2.2.2, za F5.out 2⟩ (fun hHeld => ?_)
  refine pq_ 0 (some 62) ?_
  refine pq_ 1 (some 63) ?_
  refine pq_ 2 (some 64) ?_
  refine pq_ 4 (some 66) ?_
  refine pq_ 5 (some 67) ?_
  refine pq_ 6 (some 68) ?_
  refine pq_ 8 (some 70) ?_
  refine pq_ 9 (some 71) ?_
  refine tq_ 3 (some 65) hHeld ?_
  refine tq_ 7 (some 69) hHeld ?_
  refine tq_ 10 (some 72) hHeld ?_
  refine oq_ 11 (some 73) (fun K hK => ?_)
  refine yh Tryz.func64 (by kernel_rfl) rfl #[.pointer (some ⟨x.ss, 0, none⟩), .agg #[m, gr, .int .i64 100, .int .i64 1000, .int .i64 8, .int .i64 8, .int .i64 100000, .int .i64 500, .int .i64 2000, .int .i64 1024, .int .i64 1024, .int .u64 0, o], .int .i64 1, .slice (some ⟨g0, 0, none⟩) p.length cp] (by rfl) rfl rfl (by (try simp only [List.map_toArray, List.map_cons, List.map_nil]); first | done | rfl) ?_
  refine (HV.out _ m gr o g0 cp _ L5.out.gt.slv CF5.out R5.out).mono ?_
  rintro e w6 ⟨A6, c6, rfl, hc6, hF6, hs, hc⟩
  have L6 := hQ (L5.out.step (L5.out.gt.step hs hc) (zaO hc))
  have K6 := hQ (hc.cell K5.out (by decide))
  have F6 := hQ (hc.cell F5.out (by decide))
  have Q6 := hQ hF6
  have C6 := hQ hc6
  have S6 := hQ (show w4.heap.size < _ from zF F5.out)
  have X6 := hQ (hc.cell X5.out (by decide))
  clear hF6 hc6 hs hc
  have ff : ∀ i, w6.frozen? ⟨w4.heap.size, i, none⟩ = false := fun i => zh F6.out i
  have f2 := za F6.out 2
  refine ⟨_, rfl, ?_⟩
  refine hK.out _ _ ⟨(yn K6.out HG.out).1, (yn K6.out HG.out).2.1, (yn K6.out HG.out).2.2.1, (yn K6.out HG.out).2.2.2.1, (yn K6.out HG.out).2.2.2.2.1, (yn K6.out HG.out).2.2.2.2.2.1, (yn K6.out HG.out).2.2.2.2.2.2.1, (yn K6.out HG.out).2.2.2.2.2.2.2.1, (yn K6.out HG.out).2.2.2.2.2.2.2.2.1, (yn K6.out HG.out).2.2.2.2.2.2.2.2.2.1, (yn K6.out HG.out).2.2.2.2.2.2.2.2.2.2.1, (yn K6.out HG.out).2.2.2.2.2.2.2.2.2.2.2.1, (yn K6.out HG.out).2.2.2.2.2.2.2.2.2.2.2.2.1, (yn K6.out HG.out).2.2.2.2.2.2.2.2.2.2.2.2.2, za F6.out 2⟩ (fun hHeld => ?_)
  clear hK K
  refine nq_ ?_
  refine pq_ 12 (some 74) ?_
  refine kE (i := 13) (N := none) #[true, true, true, true, true, true, true, true, true, true, true, true, true, true] rfl rfl (by kernel_rfl) (by decide) (fun K hK => ?_)
  refine jY (w1 := ?_) (by rfl) rfl ?_ ?_
  rotate_left
  · go_simp
    rfl
  refine hK.out _ _ ?_
  clear hK K
  refine xJ (by kernel_rfl) ?_

  have L6' : xx B N' x g' gb dk n L (ja Qi 1 []) Qo w w6 w.heap.size w4.heap.size := ⟨L6.out.gt, L6.out.ch, L6.out.le, L6.out.t1, ⟨_, _, _, F6.out, by decide⟩, L6.out.n1, L4.out.ch.size⟩
  have L7 := hQ (L6'.set (j := 2) (v := .slice A6 bl.length c6) (Or.inr rfl))
  have f0 := za F6.out 0
  have f1 := za F6.out 1
  have f0 : w6.cell? ⟨w4.heap.size, 0, none⟩ = some (.int .i64 t) := f0
  have f1 : w6.cell? ⟨w4.heap.size, 1, none⟩ = some (.int .i64 u) := f1
  have hne : w.heap.size ≠ w4.heap.size := by have := zF X4.out; omega
  have X7 := hQ (show (w6.setCell ⟨w4.heap.size, 2, none⟩ (.slice A6 bl.length c6)).heap[w.heap.size]? = _ from (Below.heap_setCell w6 ⟨w4.heap.size, 2, none⟩ (.slice A6 bl.length c6) w.heap.size hne).trans X6.out)
  have Q7 := hQ (Kd.XH (kY (g := w4.heap.size) (j := 2) (u := .slice A6 bl.length c6) Q6.out S6.out))
  clear L6'
  generalize hW7 : w6.setCell ⟨w4.heap.size, 2, none⟩ (.slice A6 bl.length c6) = W7 at *
  have d0 : W7.cell? ⟨w4.heap.size, 0, none⟩ = some (.int .i64 t) := by rw [← hW7]; simp [go_sem, f0]
  have d1 : W7.cell? ⟨w4.heap.size, 1, none⟩ = some (.int .i64 u) := by rw [← hW7]; simp [go_sem, f1]
  have d2 : W7.cell? ⟨w4.heap.size, 2, none⟩ = some (.slice A6 bl.length c6) := by rw [← hW7]; simp [go_sem, f2]
  clear hW7 f0 f1 f2 ff
  go_wp2_with (fail)
  have hbl : bl.length ≤ 253 := by have := HO.out; unfold Ok at this; omega
  refine (xE.calls t u A6 c6 bl _ 0 _ Q7.out C6.out (Xl t u bl (by omega) HO.out)).mono ?_
  rintro e w8 ⟨v0, rfl, hR8, hbw⟩
  have L8 := hQ (L7.out.below hbw)
  have X8 := hQ (zb X7.out hbw)
  obtain ⟨A8, c8, hv8⟩ := Kd.yc hR8
  have hl8 : (hb t ((bl.length : Int) + 1) u ++ bl).length = 7 + bl.length := by rw [List.length_append, xM]
  rw [hl8] at hv8
  subst hv8
  have R8 := hQ hR8
  have HBL := hQ hbl
  have HL8 := hQ hl8
  clear hbw hR8 d0 d1 d2 hbl hl8
  have p0 : w8.cell? ⟨gb, 18, none⟩ = some (.pointer (some ⟨L 1 3, 0, none⟩)) := (L8.out.gt.cells.2.2 1 HC.out).2
  go_wp2_with (fail)
  have hlt := ((L7.out.gt.rg 1 HC.out).lt).2
  have hPut := jQ w8 (L 1 3) (L 1 4) 1024 (Qo 1) (L8.out.gt.rg 1 HC.out) A8 (7 + bl.length) c8 _ _ _ R8.out hlt (7 + bl.length) (by rw [HQ.out]; have := HBL.out; simp; omega)
  have ht8 : (hb t ((bl.length : Int) + 1) u ++ bl).take (7 + bl.length) = hb t ((bl.length : Int) + 1) u ++ bl := List.take_of_length_le (by rw [HL8.out]; exact Nat.le_refl _)
  rw [ht8, HQ.out, List.nil_append] at hPut
  refine hPut.mono ?_
  rintro e w9 ⟨rfl, hw9, hf9⟩
  have L9 := hQ (L8.out.step (L8.out.gt.ring HC.out hw9 hf9) (L8.out.gt.ringC HC.out hf9))
  have X9 := hQ ((L8.out.gt.ringC HC.out hf9).cell X8.out (by decide))
  clear hw9 hf9 hPut ht8 hlt p0
  obtain ⟨y0, y1, y2⟩ := kV X9.out
  have fy : ∀ i, w9.frozen? ⟨w.heap.size, i, none⟩ = false := fun i => zh X9.out i
  go_wp2
  refine bodyPost_ret (v := .agg #[.bool true, .int .i64 1, .slice none 0 0]) ?_ rfl ⟨rfl, ?_⟩
  · simp [results, Tryz.results33, go_sem, hu61, y0, y1, y2]
  · refine xx.both (b1 := w.heap.size) (b2 := w4.heap.size) ?_
    repeat (with_reducible first | exact L9.out | (refine xx.set ?_ (Or.inl rfl)))
theorem QM (w : World) (B N N' : Nat) (x : Ix) (g g' : Sg) (gb dk n : Nat) (L : Nat → Nat → Nat) (Qi Qo : Nat → List Int) (h : zR w B N x g gb dk n L Qi Qo) (hc : 2 < n) (t u m0 : Int) (p bl : List Int) (hb8 : B8 (Qi 2)) (hf : xh jH (Qi 2) false = (t, u, p, m0, 0)) (hp : 0 < p.length) (hnx : (Qi 2).drop m0.toNat = []) (hqo : Qo 2 = []) (hS : jP B N N' x g g' 2 p bl) (hOk : Ok t ((bl.length : Int) + 1) u) :
    Calls Tryz.prog 33 #[.pointer (some ⟨gb, 0, none⟩), .int .i64 2] w fun e w' => e = .returned (.agg #[.bool true, .int .i64 1, .slice none 0 0]) ∧ zR w' B N' x g' gb dk n L (ja Qi 2 []) (ja Qo 2 (hb t ((bl.length : Int) + 1) u ++ bl)) ∧ Ch TG (MS x) B w w' := by
  have hu98 := Tryz.underlying98
  have hu96 := Tryz.underlying96
  have hu95 := Tryz.underlying95
  have hu61 := Tryz.underlying61
  have hu141 := Tryz.underlying141
  have hu30 := Tryz.underlying30
  have B1 := hQ (show Below w.heap.size w (w.alloc (.cells #[.bool false, .int .i64 0, .slice none 0 0] 61)) from (Below.refl _ _).alloc (Nat.le_refl _) _)
  have X1 := hQ (zi w (.cells #[.bool false, .int .i64 0, .slice none 0 0] 61))
  have L1 := hQ (xx.mk' h B1.out X1.out X1.out (by omega) (by omega) (by decide) (by decide))
  have HS := fun (W : World) (hW : zR W B N x g gb dk n L Qi Qo) => jS W B N x g gb dk n L Qi Qo hW 2 hc
  have e1 : (!((xh jH (Qi 2) false).2.2.2.2 == 3)) = true := by rw [hf]; rfl
  have HR := fun (W : World) (hW : zR W B N x g gb dk n L Qi Qo) => kr jH W (L 2 0) (L 2 1) (L 2 2) 1024 (Qi 2) false (hW.fl 2 hc) (ZZ _ hb8)
  rw [e1] at HR
  have HM := fun (W : World) (hW : zR W B N x g gb dk n L Qi Qo) => Xn W (L 2 3) (L 2 4) 1024 (Qo 2) (hW.rg 2 hc)
  have e2 : ((1024 : Nat) : Int) - ((Qo 2).length : Int) = 1024 := by rw [hqo]; rfl
  rw [e2] at HM
  have HN := fun (W : World) (hW : zR W B N x g gb dk n L Qi Qo) => kJ jH W (L 2 0) (L 2 1) (L 2 2) 1024 (Qi 2) false (hW.fl 2 hc) (ZZ _ hb8) t u p m0 0 hf
  have e3 : qj jH (Qi 2) false = ([], false) := by unfold qj; rw [hf]; simp only; rw [if_neg (by decide), hnx]
  rw [e3] at HN
  have HP := hQ hp
  have HV := hQ hS
  have HO := hQ hOk
  have HQ := hQ hqo
  have HC := hQ hc
  have hcells := fun (W : World) (hW : zR W B N x g gb dk n L Qi Qo) => (hW.cells.2.2 2 hc)
  have hfl := fun (W W' : World) (hW : zR W B N x g gb dk n L Qi Qo) (q : List Int) (hw : yT W' (L 2 0) (L 2 1) (L 2 2) 1024 q false) (hf : Fr3 (L 2 0) (L 2 1) (L 2 2) W W') => And.intro (hW.flow hc hw hf) (hW.flowC hc hf)
  clear h hc hb8 hf hp hnx hqo hS hOk e1 e2 e3
  go_enter Tryz.func33, Tryz.ntmps33
  go_wp2_with (fail)
  refine (HS _ L1.out.gt).mono ?_
  rintro e w2 ⟨rfl, hb⟩
  have L2 := hQ (L1.out.below hb)
  have X2 := hQ (zb X1.out hb)
  clear hb HS
  have p0 : w2.cell? ⟨gb, 19, none⟩ = some (.pointer (some ⟨L 2 0, 0, none⟩)) := (hcells _ L2.out.gt).1
  go_wp2_with (fail)
  refine (HR _ L2.out.gt).mono ?_
  rintro e w3 ⟨rfl, hb⟩
  have L3 := hQ (L2.out.below hb)
  have X3 := hQ (zb X2.out hb)
  clear hb HR p0
  have p0 : w3.cell? ⟨gb, 20, none⟩ = some (.pointer (some ⟨L 2 3, 0, none⟩)) := (hcells _ L3.out.gt).2
  go_wp2_with (fail)
  refine (HM _ L3.out.gt).mono ?_
  rintro e w3b ⟨rfl, hb⟩
  have L3b := hQ (L3.out.below hb)
  have X3b := hQ (zb X3.out hb)
  clear hb HM p0
  have p0 : w3b.cell? ⟨gb, 19, none⟩ = some (.pointer (some ⟨L 2 0, 0, none⟩)) := (hcells _ L3b.out.gt).1
  go_wp2_with (fail)
  refine (HN _ L3b.out.gt).mono ?_
  rintro e w4 ⟨Ap, cp, rfl, hR4, hw4, hf4⟩
  obtain ⟨hg4, hc4⟩ := hfl _ _ L3b.out.gt _ hw4 hf4
  have L4 := hQ (L3b.out.step hg4 hc4)
  have X4 := hQ (hc4.cell X3b.out (by decide))
  obtain ⟨g0, cap0, eg, _, _, _⟩ := Kd.qm hR4 HP.out
  obtain ⟨rfl, rfl⟩ : Ap = some ⟨g0, 0, none⟩ ∧ cp = cap0 := by injection eg with h1 h2 h3; exact ⟨h1, h3⟩
  have R4 := hQ hR4
  clear hw4 hf4 hg4 hc4 hR4 eg p0 HN hcells hfl
  go_wp2_with (fail)
  have hb5 : Below w4.heap.size w4 ((w4.alloc (.cells #[.int .i64 t, .int .i64 u, .slice (some ⟨g0, 0, none⟩) p.length cp] 141)).drew) := zl ((Below.refl _ _).alloc (Nat.le_refl _) _)
  have L5 := hQ (L4.out.below hb5)
  have X5 := hQ (zb X4.out hb5)
  have R5 := hQ (Kd.zz R4.out hb5)
  have F5 := hQ (zn (zi w4 (.cells #[.int .i64 t, .int .i64 u, .slice (some ⟨g0, 0, none⟩) p.length cp] 141)))
  obtain ⟨cs, m, gr, o, hk5, hg5, hcf5⟩ := L5.out.gt.blk
  have K5 := hQ hk5
  have HG := hQ hg5
  have CF5 := hQ hcf5
  clear hk5 hg5 hcf5 hb5
  simp only [jP, xR] at HV
  refine sq_ (ds := [13]) #[false, false, false, false, false, false, false, false, false, false, false, false, false, false] (fun w' => w'.cell? ⟨gb, 0, none⟩ = some (m) ∧ w'.cell? ⟨gb, 1, none⟩ = some (gr) ∧ w'.cell? ⟨gb, 2, none⟩ = some (.int .i64 100) ∧ w'.cell? ⟨gb, 3, none⟩ = some (.int .i64 1000) ∧ w'.cell? ⟨gb, 4, none⟩ = some (.int .i64 8) ∧ w'.cell? ⟨gb, 5, none⟩ = some (.int .i64 8) ∧ w'.cell? ⟨gb, 6, none⟩ = some (.int .i64 100000) ∧ w'.cell? ⟨gb, 7, none⟩ = some (.int .i64 500) ∧ w'.cell? ⟨gb, 8, none⟩ = some (.int .i64 2000) ∧ w'.cell? ⟨gb, 9, none⟩ = some (.int .i64 1024) ∧ w'.cell? ⟨gb, 10, none⟩ = some (.int .i64 1024) ∧ w'.cell? ⟨gb, 11, none⟩ = some (.int .u64 0) ∧ w'.cell? ⟨gb, 12, none⟩ = some (o) ∧ w'.cell? ⟨gb, 14, none⟩ = some (.pointer (some ⟨x.ss, 0, none⟩)) ∧ w'.cell? ⟨w4.heap.size, 2, none⟩ = some (.slice (some ⟨g0, 0, none⟩) p.length cp)) ⟨(yn K5.out HG.out).1, (yn K5.out HG.out).2.1, (yn K5.out HG.out).2.2.1, (yn K5.out HG.out).2.2.2.1, (yn K5.out HG.out).2.2.2.2.1, (yn K5.out HG.out).2.2.2.2.2.1, (yn K5.out HG.out).2.2.2.2.2.2.1, (yn K5.out HG.out).2.2.2.2.2.2.2.1, (yn K5.out HG.out).2.2.2.2.2.2.2.2.1, (yn K5.out HG.out).2.2.2.2.2.2.2.2.2.1, (yn K5.out HG.out).2.2.2.2.2.2.2.2.2.2.1, (yn K5.out HG.out).2.2.2.2.2.2.2.2.2.2.2.1, (yn K5.out HG.out).2.2.2.2.2.2.2.2.2.2.2.2.1, (yn K5.out HG.out).2.2.2.2.2.2.2.2.2.2.2.2.2, za F5.out 2⟩ (fun hHeld => ?_)
  refine pq_ 0 (some 62) ?_
  refine pq_ 1 (some 63) ?_
  refine pq_ 2 (some 64) ?_
  refine pq_ 4 (some 66) ?_
  refine pq_ 5 (some 67) ?_
  refine pq_ 6 (some 68) ?_
  refine pq_ 8 (some 70) ?_
  refine pq_ 9 (some 71) ?_
  refine tq_ 3 (some 65) hHeld ?_
  refine tq_ 7 (some 69) hHeld ?_
  refine tq_ 10 (some 72) hHeld ?_
  refine oq_ 11 (some 73) (fun K hK => ?_)
  refine yh Tryz.func64 (by kernel_rfl) rfl #[.pointer (some ⟨x.ss, 0, none⟩), .agg #[m, gr, .int .i64 100, .int .i64 1000, .int .i64 8, .int .i64 8, .int .i64 100000, .int .i64 500, .int .i64 2000, .int .i64 1024, .int .i64 1024, .int .u64 0, o], .int .i64 2, .slice (some ⟨g0, 0, none⟩) p.length cp] (by rfl) rfl rfl (by (try simp only [List.map_toArray, List.map_cons, List.map_nil]); first | done | rfl) ?_
  refine (HV.out _ m gr o g0 cp _ L5.out.gt.slv CF5.out R5.out).mono ?_
  rintro e w6 ⟨A6, c6, rfl, hc6, hF6, hs, hc⟩
  have L6 := hQ (L5.out.step (L5.out.gt.step hs hc) (zaO hc))
  have K6 := hQ (hc.cell K5.out (by decide))
  have F6 := hQ (hc.cell F5.out (by decide))
  have Q6 := hQ hF6
  have C6 := hQ hc6
  have S6 := hQ (show w4.heap.size < _ from zF F5.out)
  have X6 := hQ (hc.cell X5.out (by decide))
  clear hF6 hc6 hs hc
  have ff : ∀ i, w6.frozen? ⟨w4.heap.size, i, none⟩ = false := fun i => zh F6.out i
  have f2 := za F6.out 2
  refine ⟨_, rfl, ?_⟩
  refine hK.out _ _ ⟨(yn K6.out HG.out).1, (yn K6.out HG.out).2.1, (yn K6.out HG.out).2.2.1, (yn K6.out HG.out).2.2.2.1, (yn K6.out HG.out).2.2.2.2.1, (yn K6.out HG.out).2.2.2.2.2.1, (yn K6.out HG.out).2.2.2.2.2.2.1, (yn K6.out HG.out).2.2.2.2.2.2.2.1, (yn K6.out HG.out).2.2.2.2.2.2.2.2.1, (yn K6.out HG.out).2.2.2.2.2.2.2.2.2.1, (yn K6.out HG.out).2.2.2.2.2.2.2.2.2.2.1, (yn K6.out HG.out).2.2.2.2.2.2.2.2.2.2.2.1, (yn K6.out HG.out).2.2.2.2.2.2.2.2.2.2.2.2.1, (yn K6.out HG.out).2.2.2.2.2.2.2.2.2.2.2.2.2, za F6.out 2⟩ (fun hHeld => ?_)
  clear hK K
  refine nq_ ?_
  refine pq_ 12 (some 74) ?_
  refine kE (i := 13) (N := none) #[true, true, true, true, true, true, true, true, true, true, true, true, true, true] rfl rfl (by kernel_rfl) (by decide) (fun K hK => ?_)
  refine jY (w1 := ?_) (by rfl) rfl ?_ ?_
  rotate_left
  · go_simp
    rfl
  refine hK.out _ _ ?_
  clear hK K
  refine xJ (by kernel_rfl) ?_

  have L6' : xx B N' x g' gb dk n L (ja Qi 2 []) Qo w w6 w.heap.size w4.heap.size := ⟨L6.out.gt, L6.out.ch, L6.out.le, L6.out.t1, ⟨_, _, _, F6.out, by decide⟩, L6.out.n1, L4.out.ch.size⟩
  have L7 := hQ (L6'.set (j := 2) (v := .slice A6 bl.length c6) (Or.inr rfl))
  have f0 := za F6.out 0
  have f1 := za F6.out 1
  have f0 : w6.cell? ⟨w4.heap.size, 0, none⟩ = some (.int .i64 t) := f0
  have f1 : w6.cell? ⟨w4.heap.size, 1, none⟩ = some (.int .i64 u) := f1
  have hne : w.heap.size ≠ w4.heap.size := by have := zF X4.out; omega
  have X7 := hQ (show (w6.setCell ⟨w4.heap.size, 2, none⟩ (.slice A6 bl.length c6)).heap[w.heap.size]? = _ from (Below.heap_setCell w6 ⟨w4.heap.size, 2, none⟩ (.slice A6 bl.length c6) w.heap.size hne).trans X6.out)
  have Q7 := hQ (Kd.XH (kY (g := w4.heap.size) (j := 2) (u := .slice A6 bl.length c6) Q6.out S6.out))
  clear L6'
  generalize hW7 : w6.setCell ⟨w4.heap.size, 2, none⟩ (.slice A6 bl.length c6) = W7 at *
  have d0 : W7.cell? ⟨w4.heap.size, 0, none⟩ = some (.int .i64 t) := by rw [← hW7]; simp [go_sem, f0]
  have d1 : W7.cell? ⟨w4.heap.size, 1, none⟩ = some (.int .i64 u) := by rw [← hW7]; simp [go_sem, f1]
  have d2 : W7.cell? ⟨w4.heap.size, 2, none⟩ = some (.slice A6 bl.length c6) := by rw [← hW7]; simp [go_sem, f2]
  clear hW7 f0 f1 f2 ff
  go_wp2_with (fail)
  have hbl : bl.length ≤ 253 := by have := HO.out; unfold Ok at this; omega
  refine (xE.calls t u A6 c6 bl _ 0 _ Q7.out C6.out (Xl t u bl (by omega) HO.out)).mono ?_
  rintro e w8 ⟨v0, rfl, hR8, hbw⟩
  have L8 := hQ (L7.out.below hbw)
  have X8 := hQ (zb X7.out hbw)
  obtain ⟨A8, c8, hv8⟩ := Kd.yc hR8
  have hl8 : (hb t ((bl.length : Int) + 1) u ++ bl).length = 7 + bl.length := by rw [List.length_append, xM]
  rw [hl8] at hv8
  subst hv8
  have R8 := hQ hR8
  have HBL := hQ hbl
  have HL8 := hQ hl8
  clear hbw hR8 d0 d1 d2 hbl hl8
  have p0 : w8.cell? ⟨gb, 20, none⟩ = some (.pointer (some ⟨L 2 3, 0, none⟩)) := (L8.out.gt.cells.2.2 2 HC.out).2
  go_wp2_with (fail)
  have hlt := ((L7.out.gt.rg 2 HC.out).lt).2
  have hPut := jQ w8 (L 2 3) (L 2 4) 1024 (Qo 2) (L8.out.gt.rg 2 HC.out) A8 (7 + bl.length) c8 _ _ _ R8.out hlt (7 + bl.length) (by rw [HQ.out]; have := HBL.out; simp; omega)
  have ht8 : (hb t ((bl.length : Int) + 1) u ++ bl).take (7 + bl.length) = hb t ((bl.length : Int) + 1) u ++ bl := List.take_of_length_le (by rw [HL8.out]; exact Nat.le_refl _)
  rw [ht8, HQ.out, List.nil_append] at hPut
  refine hPut.mono ?_
  rintro e w9 ⟨rfl, hw9, hf9⟩
  have L9 := hQ (L8.out.step (L8.out.gt.ring HC.out hw9 hf9) (L8.out.gt.ringC HC.out hf9))
  have X9 := hQ ((L8.out.gt.ringC HC.out hf9).cell X8.out (by decide))
  clear hw9 hf9 hPut ht8 hlt p0
  obtain ⟨y0, y1, y2⟩ := kV X9.out
  have fy : ∀ i, w9.frozen? ⟨w.heap.size, i, none⟩ = false := fun i => zh X9.out i
  go_wp2
  refine bodyPost_ret (v := .agg #[.bool true, .int .i64 1, .slice none 0 0]) ?_ rfl ⟨rfl, ?_⟩
  · simp [results, Tryz.results33, go_sem, hu61, y0, y1, y2]
  · refine xx.both (b1 := w.heap.size) (b2 := w4.heap.size) ?_
    repeat (with_reducible first | exact L9.out | (refine xx.set ?_ (Or.inl rfl)))
open Go.Proofs.YtlalbohhopmpdaaGreat.Ring (yT yt Fr2 Fr3 xh qj)
theorem Wq {w : World} {g t : Nat} {v0 v1 v2 v3 v4 v5 v6 : Value} (h : w.heap[g]? = some (.cells #[v0, v1, v2, v3, v4, v5, v6] t (0, 0))) : w.cell? ⟨g, 0, none⟩ = some v0 ∧ w.cell? ⟨g, 1, none⟩ = some v1 ∧ w.cell? ⟨g, 2, none⟩ = some v2 ∧ w.cell? ⟨g, 3, none⟩ = some v3 ∧ w.cell? ⟨g, 4, none⟩ = some v4 ∧ w.cell? ⟨g, 5, none⟩ = some v5 ∧ w.cell? ⟨g, 6, none⟩ = some v6 :=
  ⟨za h 0, za h 1, za h 2, za h 3, za h 4, za h 5, za h 6⟩
theorem Kt (w : World) (B N N' : Nat) (x : Ix) (g g' : Sg) (gb dk n : Nat) (L : Nat → Nat → Nat) (Qi Qo : Nat → List Int) (h : zR w B N x g gb dk n L Qi Qo) (c : Nat) (hc : c < n) (t u m0 : Int) (p bl : List Int) (hb8 : B8 (Qi c)) (hf : xh jH (Qi c) false = (t, u, p, m0, 0)) (hp : 0 < p.length) (hnx : (Qi c).drop m0.toNat = []) (hqo : Qo c = []) (hS : jP B N N' x g g' c p bl) (hOk : Ok t ((bl.length : Int) + 1) u) :
    Calls Tryz.prog 33 #[.pointer (some ⟨gb, 0, none⟩), .int .i64 (c : Int)] w fun e w' => e = .returned (.agg #[.bool true, .int .i64 1, .slice none 0 0]) ∧ zR w' B N' x g' gb dk n L (ja Qi c []) (ja Qo c (hb t ((bl.length : Int) + 1) u ++ bl)) ∧ Ch TG (MS x) B w w' := by
  have hn3 := h.desk.le
  obtain rfl | rfl | rfl : c = 0 ∨ c = 1 ∨ c = 2 := by omega
  · exact Qu w B N N' x g g' gb dk n L Qi Qo h hc t u m0 p bl hb8 hf hp hnx hqo hS hOk
  · exact QB w B N N' x g g' gb dk n L Qi Qo h hc t u m0 p bl hb8 hf hp hnx hqo hS hOk
  · exact QM w B N N' x g g' gb dk n L Qi Qo h hc t u m0 p bl hb8 hf hp hnx hqo hS hOk
theorem zaG (w : World) (B N N' : Nat) (x : Ix) (g g' : Sg) (gb dk n : Nat) (L : Nat → Nat → Nat) (Qi Qo : Nat → List Int) (h : zR w B N x g gb dk n L Qi Qo) (c : Nat) (hc : c < n) (A0 : Option Addr) (k c0 : Nat) (l : List Int) (hk : k = l.length) (hr : Kd.C (Kd.int .u8) w A0 k l) (hc0 : k ≤ c0) (hne : 0 < k → ∀ a, A0 = some a → a.block ≠ L c 2) (hroom : (Qi c).length + k ≤ 1024) :
    Calls Tryz.prog 15 #[.pointer (some ⟨gb, 0, none⟩), .agg #[.int .i64 3, .int .i64 (c : Int), .int .i64 0, .slice A0 k c0, .int .i64 0, .int .i64 0, .slice none 0 0]] w fun e w' => e = .returned (.agg #[.bool true, .int .i64 (k : Int), .slice none 0 0]) ∧ zR w' B N x g gb dk n L (ja Qi c (Qi c ++ l)) Qo ∧ Ch TG (MS x) B w w' := by
  have hu64 := Tryz.underlying64
  have hu61 := Tryz.underlying61
  obtain ⟨ci, hci⟩ : ∃ ci : Int, ci = (c : Int) := ⟨_, rfl⟩
  have B1 := hQ (show Below w.heap.size w ((w.alloc (.cells #[.int .i64 3, .int .i64 (c : Int), .int .i64 0, .slice A0 k c0, .int .i64 0, .int .i64 0, .slice none 0 0] 64)).alloc (.cells #[.bool false, .int .i64 0, .slice none 0 0] 61)) from ((Below.refl _ _).alloc (Nat.le_refl _) _).alloc (by simp) _)
  have Y1 := hQ (zg (zi w (.cells #[.int .i64 3, .int .i64 (c : Int), .int .i64 0, .slice A0 k c0, .int .i64 0, .int .i64 0, .slice none 0 0] 64)) (.cells #[.bool false, .int .i64 0, .slice none 0 0] 61))
  have X1 := hQ (yS w (.cells #[.int .i64 3, .int .i64 (c : Int), .int .i64 0, .slice A0 k c0, .int .i64 0, .int .i64 0, .slice none 0 0] 64) (.cells #[.bool false, .int .i64 0, .slice none 0 0] 61))
  have L1 := hQ (xx.mk' h B1.out X1.out X1.out (by omega) (by omega) (by decide) (by decide))
  have HI := Vl _ B N x g gb dk n L Qi Qo L1.out.gt c hc A0 k c0 l hk (Kd.zx hr B1.out) hc0 hne hroom
  clear hr hk hne hroom
  clear h hc
  rw [← hci] at B1 Y1 X1 L1 HI ⊢
  clear hci
  obtain ⟨y0, y1, y2, y3, y4, y5, y6⟩ := Wq Y1.out
  go_enter Tryz.func15, Tryz.ntmps15
  go_wp2_with (fail)
  refine (HI).mono ?_
  rintro e w3 ⟨rfl, hg3, hc3⟩
  have L3 := hQ (L1.out.step hg3 hc3)
  have X3 := hQ (hc3.cell X1.out (by decide))
  clear hg3 hc3
  obtain ⟨x0, x1, x2⟩ := kV X3.out
  have fx : ∀ i, w3.frozen? ⟨w.heap.size + 1, i, none⟩ = false := fun i => zh X3.out i
  go_wp2
  refine bodyPost_ret (v := .agg #[.bool true, .int .i64 (k : Int), .slice none 0 0]) ?_ rfl ⟨rfl, ?_⟩
  · simp [results, Tryz.results15, go_sem, hu61, x0, x1, x2]
  · refine xx.both (b1 := w.heap.size + 1) (b2 := w.heap.size + 1) ?_
    repeat (with_reducible first | exact L3.out | (refine xx.set ?_ (Or.inl rfl)))
theorem zak (w : World) (B N N' : Nat) (x : Ix) (g g' : Sg) (gb dk n : Nat) (L : Nat → Nat → Nat) (Qi Qo : Nat → List Int) (h : zR w B N x g gb dk n L Qi Qo) (c : Nat) (hc : c < n) (t u m0 : Int) (p bl : List Int) (hb8 : B8 (Qi c)) (hf : xh jH (Qi c) false = (t, u, p, m0, 0)) (hp : 0 < p.length) (hnx : (Qi c).drop m0.toNat = []) (hqo : Qo c = []) (hS : jP B N N' x g g' c p bl) (hOk : Ok t ((bl.length : Int) + 1) u) :
    Calls Tryz.prog 15 #[.pointer (some ⟨gb, 0, none⟩), .agg #[.int .i64 4, .int .i64 (c : Int), .int .i64 0, .slice none 0 0, .int .i64 0, .int .i64 0, .slice none 0 0]] w fun e w' => e = .returned (.agg #[.bool true, .int .i64 1, .slice none 0 0]) ∧ zR w' B N' x g' gb dk n L (ja Qi c []) (ja Qo c (hb t ((bl.length : Int) + 1) u ++ bl)) ∧ Ch TG (MS x) B w w' := by
  have hu64 := Tryz.underlying64
  have hu61 := Tryz.underlying61
  obtain ⟨ci, hci⟩ : ∃ ci : Int, ci = (c : Int) := ⟨_, rfl⟩
  have B1 := hQ (show Below w.heap.size w ((w.alloc (.cells #[.int .i64 4, .int .i64 (c : Int), .int .i64 0, .slice none 0 0, .int .i64 0, .int .i64 0, .slice none 0 0] 64)).alloc (.cells #[.bool false, .int .i64 0, .slice none 0 0] 61)) from ((Below.refl _ _).alloc (Nat.le_refl _) _).alloc (by simp) _)
  have Y1 := hQ (zg (zi w (.cells #[.int .i64 4, .int .i64 (c : Int), .int .i64 0, .slice none 0 0, .int .i64 0, .int .i64 0, .slice none 0 0] 64)) (.cells #[.bool false, .int .i64 0, .slice none 0 0] 61))
  have X1 := hQ (yS w (.cells #[.int .i64 4, .int .i64 (c : Int), .int .i64 0, .slice none 0 0, .int .i64 0, .int .i64 0, .slice none 0 0] 64) (.cells #[.bool false, .int .i64 0, .slice none 0 0] 61))
  have L1 := hQ (xx.mk' h B1.out X1.out X1.out (by omega) (by omega) (by decide) (by decide))
  have HI := Kt _ B N N' x g g' gb dk n L Qi Qo L1.out.gt c hc t u m0 p bl hb8 hf hp hnx hqo hS hOk
  clear hb8 hf hp hnx hqo hS hOk
  clear h hc
  rw [← hci] at B1 Y1 X1 L1 HI ⊢
  clear hci
  obtain ⟨y0, y1, y2, y3, y4, y5, y6⟩ := Wq Y1.out
  go_enter Tryz.func15, Tryz.ntmps15
  go_wp2_with (fail)
  refine (HI).mono ?_
  rintro e w3 ⟨rfl, hg3, hc3⟩
  have L3 := hQ (L1.out.step hg3 hc3)
  have X3 := hQ (hc3.cell X1.out (by decide))
  clear hg3 hc3
  obtain ⟨x0, x1, x2⟩ := kV X3.out
  have fx : ∀ i, w3.frozen? ⟨w.heap.size + 1, i, none⟩ = false := fun i => zh X3.out i
  go_wp2
  refine bodyPost_ret (v := .agg #[.bool true, .int .i64 1, .slice none 0 0]) ?_ rfl ⟨rfl, ?_⟩
  · simp [results, Tryz.results15, go_sem, hu61, x0, x1, x2]
  · refine xx.both (b1 := w.heap.size + 1) (b2 := w.heap.size + 1) ?_
    repeat (with_reducible first | exact L3.out | (refine xx.set ?_ (Or.inl rfl)))
theorem zbg (w : World) (B N N' : Nat) (x : Ix) (g g' : Sg) (gb dk n : Nat) (L : Nat → Nat → Nat) (Qi Qo : Nat → List Int) (h : zR w B N x g gb dk n L Qi Qo) (c : Nat) (hc : c < n) (k : Nat) (hk : k = (Qo c).length) :
    Calls Tryz.prog 15 #[.pointer (some ⟨gb, 0, none⟩), .agg #[.int .i64 5, .int .i64 (c : Int), .int .i64 65536, .slice none 0 0, .int .i64 0, .int .i64 0, .slice none 0 0]] w fun e w' => ∃ A c0, e = .returned (.agg #[.bool true, .int .i64 (k : Int), .slice A k c0]) ∧ k ≤ c0 ∧ Kd.F (Kd.int .u8) w' (fun k => w.heap.size ≤ k) A k (Qo c) ∧ zR w' B N x g gb dk n L Qi (ja Qo c []) ∧ Ch TG (MS x) B w w' := by
  have hu64 := Tryz.underlying64
  have hu61 := Tryz.underlying61
  obtain ⟨ci, hci⟩ : ∃ ci : Int, ci = (c : Int) := ⟨_, rfl⟩
  have B1 := hQ (show Below w.heap.size w ((w.alloc (.cells #[.int .i64 5, .int .i64 (c : Int), .int .i64 65536, .slice none 0 0, .int .i64 0, .int .i64 0, .slice none 0 0] 64)).alloc (.cells #[.bool false, .int .i64 0, .slice none 0 0] 61)) from ((Below.refl _ _).alloc (Nat.le_refl _) _).alloc (by simp) _)
  have Y1 := hQ (zg (zi w (.cells #[.int .i64 5, .int .i64 (c : Int), .int .i64 65536, .slice none 0 0, .int .i64 0, .int .i64 0, .slice none 0 0] 64)) (.cells #[.bool false, .int .i64 0, .slice none 0 0] 61))
  have X1 := hQ (yS w (.cells #[.int .i64 5, .int .i64 (c : Int), .int .i64 65536, .slice none 0 0, .int .i64 0, .int .i64 0, .slice none 0 0] 64) (.cells #[.bool false, .int .i64 0, .slice none 0 0] 61))
  have L1 := hQ (xx.mk' h B1.out X1.out X1.out (by omega) (by omega) (by decide) (by decide))
  have HI := KU _ B N x g gb dk n L Qi Qo L1.out.gt c hc k hk
  clear hk
  clear h hc
  rw [← hci] at B1 Y1 X1 L1 HI ⊢
  clear hci
  obtain ⟨y0, y1, y2, y3, y4, y5, y6⟩ := Wq Y1.out
  go_enter Tryz.func15, Tryz.ntmps15
  go_wp2_with (fail)
  refine (HI).mono ?_
  rintro e w3 ⟨A3, c3, rfl, hc0, hF3, hg3, hc3⟩
  have L3 := hQ (L1.out.step hg3 hc3)
  have X3 := hQ (hc3.cell X1.out (by decide))
  have F3 := hQ (Kd.qU hF3 (ok' := fun k => w.heap.size + 1 + 1 ≤ k) (fun k hk => by simpa using hk))
  have S2 := hQ (zF X1.out)
  have HC0 := hQ hc0
  clear hF3 hc0
  clear hg3 hc3
  obtain ⟨x0, x1, x2⟩ := kV X3.out
  have fx : ∀ i, w3.frozen? ⟨w.heap.size + 1, i, none⟩ = false := fun i => zh X3.out i
  go_wp2
  refine bodyPost_ret (v := .agg #[.bool true, .int .i64 (k : Int), .slice A3 k c3]) ?_ rfl ⟨A3, c3, rfl, HC0.out, ?_, ?_⟩
  · simp [results, Tryz.results15, go_sem, hu61, x0, x1, x2]
  · have s2 := S2.out
    refine Kd.qU (ok := fun k => w.heap.size + 1 + 1 ≤ k) ?_ (fun k hk => by omega)
    repeat (with_reducible first | exact F3.out | (refine kY ?_ (by omega)))
  · refine xx.both (b1 := w.heap.size + 1) (b2 := w.heap.size + 1) ?_
    repeat (with_reducible first | exact L3.out | (refine xx.set ?_ (Or.inl rfl)))
open Go.Proofs.YtlalbohhopmpdaaGreat.Ring (yT yt Fr2 Fr3)
theorem zbZ (k : Nat) (hk : k < 3) : (vW k).setIfInBounds (1 + k) (.int .i64 1) = vW (k + 1) := by
  obtain rfl | rfl | rfl : k = 0 ∨ k = 1 ∨ k = 2 := by omega
  all_goals rfl
theorem blk_set {w : World} {g t i : Nat} {cs : Array Value} {v : Value} (h : w.heap[g]? = some (.cells cs t (0, 0))) : (w.setCell ⟨g, i, none⟩ v).heap[g]? = some (.cells (cs.setIfInBounds i v) t (0, 0)) := by
  have hlt := zF h
  have hx := (Array.getElem?_eq_some_iff.1 h).2
  simp [World.setCell, hlt, Array.getElem_modify, hx]
theorem ZP (w : World) (dk k : Nat) (h : kL w dk k) (hk : k < 3) :
    Calls Tryz.prog 53 #[.pointer (some ⟨dk, 0, none⟩)] w fun e w' => e = .returned (.tuple #[.int .i64 (k : Int), .bool true]) ∧ kL w' dk (k + 1) ∧ w' = w.setCell ⟨dk, 1 + k, none⟩ (.int .i64 1) := by
  have hu128 := Tryz.underlying128
  have hu126 := Tryz.underlying126
  have h0 : w.cell? ⟨dk, 0, none⟩ = some (.int .i64 8) := (za h.blk 0).trans (YD k h.le 0 (by omega)).1
  have hc : ∀ c, c < 8 → w.cell? ⟨dk, 1 + c, none⟩ = some (.int .i64 (if c < k then 1 else 0)) := fun c hc => (za h.blk (1 + c)).trans (YD k h.le c hc).2
  have c0 := hc 0 (by omega)
  have c1 := hc 1 (by omega)
  have c2 := hc 2 (by omega)
  have fd : ∀ i, w.frozen? ⟨dk, i, none⟩ = false := fun i => zh h.blk i
  have hnew : kL (w.setCell ⟨dk, 1 + k, none⟩ (.int .i64 1)) dk (k + 1) := ⟨by rw [← zbZ k hk]; exact blk_set h.blk, by omega⟩
  have HN := hQ hnew
  clear h hc hnew
  obtain rfl | rfl | rfl : k = 0 ∨ k = 1 ∨ k = 2 := by omega
  all_goals
    clear hk
    simp only [Nat.reduceLT, if_true, if_false, Nat.reduceAdd, Nat.lt_irrefl] at c0 c1 c2
    go_enter Tryz.func53, Tryz.ntmps53
    go_wp2_with (fail)
    refine wp_loop_rounds 4 ?_
    repeat (first | (go_wp2_with (fail); done) | (rw [rounds_succ]; go_wp2_with (fail)))
    exact bodyPost_ret (v := .tuple #[.int .i64 _, .bool true]) (by simp [results, Tryz.results53, go_sem]) rfl ⟨rfl, HN.out, rfl⟩
def jU (L : Nat → Nat → Nat) (n : Nat) (gf g1 b1 g2 b2 : Nat) : Nat → Nat → Nat := fun c i => if c = n then (match i with | 0 => gf | 1 => g1 | 2 => b1 | 3 => g2 | _ => b2) else L c i
section
variable {w W : World} {B : Nat} {T M : List Nat}
theorem Ch.setNew {b j : Nat} {v : Value} (h : Ch T M B w W) (hb : w.heap.size ≤ b) (hB : B ≤ w.heap.size) : Ch T M B w (W.setCell ⟨b, j, none⟩ v) :=
  ⟨h.os, h.tape, h.output, by have := h.size; simpa [World.setCell] using this, fun i hi => (Below.heap_setCell W ⟨b, j, none⟩ v i (by show i ≠ b; omega)).trans (h.low i hi), h.isMap, fun i hi hm ht => (Below.heap_setCell W ⟨b, j, none⟩ v i (by show i ≠ b; omega)).trans (h.block i hi hm ht)⟩
theorem Ch.setOld {b j t : Nat} {cs : Array Value} {f : Nat × Nat} {v : Value} (h : Ch T M B w W) (hb : w.heap[b]? = some (.cells cs t f)) (ht : t ∈ T) (hB : B ≤ b) : Ch T M B w (W.setCell ⟨b, j, none⟩ v) :=
  ⟨h.os, h.tape, h.output, by have := h.size; simpa [World.setCell] using this, fun i hi => (Below.heap_setCell W ⟨b, j, none⟩ v i (by show i ≠ b; omega)).trans (h.low i hi), h.isMap, fun i hi hm hq => (Below.heap_setCell W ⟨b, j, none⟩ v i (by
    show i ≠ b
    rintro rfl
    exact hq cs t f hb ht)).trans (h.block i hi hm hq)⟩
theorem Ch.thenBelow {W1 : World} (h : Ch T M B w W) (hb : Below W.heap.size W W1) (hB : B ≤ w.heap.size) : Ch T M B w W1 :=
  ⟨hb.os.trans h.os, hb.tape.trans h.tape, hb.output.trans h.output, Nat.le_trans h.size hb.size, fun i hi => (hb.block i (Nat.lt_of_lt_of_le hi (Nat.le_trans hB h.size))).trans (h.low i hi), h.isMap, fun i hi hm hq => (hb.block i (Nat.lt_of_lt_of_le hi h.size)).trans (h.block i hi hm hq)⟩
theorem yt.farS {g b M0 y j : Nat} {v : Value} {q : List Int} (h : yt W g b M0 q) (h1 : g ≠ y) (h2 : b ≠ y) : yt (W.setCell ⟨y, j, none⟩ v) g b M0 q := h.keep (Below.heap_setCell W ⟨y, j, none⟩ v g h1) (Below.heap_setCell W ⟨y, j, none⟩ v b h2)
end
theorem GCs.add {cs : Array Value} {m gr o : Value} {dk ss n : Nat} {L : Nat → Nat → Nat} (h : GCs cs m gr o dk ss n L) (hn : n < 3) (gf g1 b1 g2 b2 : Nat) :
    GCs ((cs.setIfInBounds (15 + 2 * n) (.pointer (some ⟨gf, 0, none⟩))).setIfInBounds (16 + 2 * n) (.pointer (some ⟨g2, 0, none⟩))) m gr o dk ss (n + 1) (jU L n gf g1 b1 g2 b2) := by
  have hs := h.size
  have other : ∀ i, i ≠ 15 + 2 * n → i ≠ 16 + 2 * n → ((cs.setIfInBounds (15 + 2 * n) (.pointer (some ⟨gf, 0, none⟩))).setIfInBounds (16 + 2 * n) (.pointer (some ⟨g2, 0, none⟩)))[i]? = cs[i]? := fun i h1 h2 => by
    rw [Array.getElem?_setIfInBounds_ne (by omega), Array.getElem?_setIfInBounds_ne (by omega)]
  refine ⟨by simp [hs], fun i hi => (other i (by omega) (by omega)).trans (h.cfg i hi), (other 13 (by omega) (by omega)).trans h.dk, (other 14 (by omega) (by omega)).trans h.ss, fun c hc => ?_⟩
  by_cases e : c = n
  · subst e
    constructor
    · rw [Array.getElem?_setIfInBounds_ne (by omega), Array.getElem?_setIfInBounds_self_of_lt (by omega)]
      simp [jU]
    · rw [Array.getElem?_setIfInBounds_self_of_lt (by simp; omega)]
      simp [jU]
  · obtain ⟨l1, l2⟩ := h.ln c (by omega)
    constructor
    · rw [other _ (by omega) (by omega), l1]
      simp [jU, e]
    · rw [other _ (by omega) (by omega), l2]
      simp [jU, e]
theorem jC (L : Nat → Nat → Nat) (n gf g1 b1 g2 b2 i : Nat) : jU L n gf g1 b1 g2 b2 n i = (match i with | 0 => gf | 1 => g1 | 2 => b1 | 3 => g2 | _ => b2) := if_pos rfl
theorem qP (L : Nat → Nat → Nat) (n gf g1 b1 g2 b2 c i : Nat) (h : c ≠ n) : jU L n gf g1 b1 g2 b2 c i = L c i := if_neg h
theorem zca {L : Nat → Nat → Nat} {n gf g1 b1 g2 b2 : Nat} (h1 : gf ≠ g1) (h2 : gf ≠ b1) (h3 : g1 ≠ b1) (h4 : g2 ≠ b2) (h5 : gf ≠ g2) (h6 : gf ≠ b2) (h7 : g1 ≠ g2) (h8 : g1 ≠ b2) (h9 : b1 ≠ g2) (h10 : b1 ≠ b2) (i j : Nat) (hi : i < 5) (hj : j < 5) (hne : i ≠ j) : jU L n gf g1 b1 g2 b2 n i ≠ jU L n gf g1 b1 g2 b2 n j := by
  rw [jC, jC]
  obtain rfl | rfl | rfl | rfl | rfl : i = 0 ∨ i = 1 ∨ i = 2 ∨ i = 3 ∨ i = 4 := by omega
  all_goals
    obtain rfl | rfl | rfl | rfl | rfl : j = 0 ∨ j = 1 ∨ j = 2 ∨ j = 3 ∨ j = 4 := by omega
    all_goals first | exact absurd rfl hne | assumption | (apply Ne.symm; assumption)
theorem zR.lt {w : World} {B N : Nat} {x : Ix} {g : Sg} {gb dk n : Nat} {L : Nat → Nat → Nat} {Qi Qo : Nat → List Int} (h : zR w B N x g gb dk n L Qi Qo) (c i : Nat) (hc : c < n) (hi : i < 5) : L c i < w.heap.size := by
  obtain ⟨⟨_, _, e0⟩, ⟨_, _, e1⟩, ⟨_, _, e2⟩⟩ := qi (h.fl c hc)
  obtain ⟨⟨_, _, e3⟩, ⟨_, _, e4⟩⟩ := jq (h.rg c hc)
  obtain rfl | rfl | rfl | rfl | rfl : i = 0 ∨ i = 1 ∨ i = 2 ∨ i = 3 ∨ i = 4 := by omega
  · exact zF e0
  · exact zF e1
  · exact zF e2
  · exact zF e3
  · exact zF e4
theorem zbv {L : Nat → Nat → Nat} {n S gf g1 b1 g2 b2 : Nat} (hap : ∀ c c' i j, c < n → c' < n → i < 5 → j < 5 → (c ≠ c' ∨ i ≠ j) → L c i ≠ L c' j) (hlt : ∀ c i, c < n → i < 5 → L c i < S) (hge : ∀ i, i < 5 → S ≤ jU L n gf g1 b1 g2 b2 n i) (h5 : ∀ i j, i < 5 → j < 5 → i ≠ j → jU L n gf g1 b1 g2 b2 n i ≠ jU L n gf g1 b1 g2 b2 n j) (c c' i j : Nat) (hc : c < n + 1) (hc' : c' < n + 1) (hi : i < 5) (hj : j < 5) (hne : c ≠ c' ∨ i ≠ j) : jU L n gf g1 b1 g2 b2 c i ≠ jU L n gf g1 b1 g2 b2 c' j := by
  by_cases e : c = n
  · by_cases e' : c' = n
    · subst e; subst e'
      exact h5 i j hi hj (by omega)
    · subst e
      rw [qP _ _ _ _ _ _ _ c' j e']
      have h1 := hge i hi
      have h2 := hlt c' j (by omega) hj
      omega
  · by_cases e' : c' = n
    · subst e'
      rw [qP _ _ _ _ _ _ _ c i e]
      have h1 := hge j hj
      have h2 := hlt c i (by omega) hi
      omega
    · rw [qP _ _ _ _ _ _ _ c i e, qP _ _ _ _ _ _ _ c' j e']
      exact hap c c' i j (by omega) (by omega) hi hj hne
theorem zR.add {w w5 : World} {B N : Nat} {x : Ix} {g : Sg} {gb dk n : Nat} {L : Nat → Nat → Nat} {Qi Qo : Nat → List Int} (h : zR w B N x g gb dk n L Qi Qo) (hch : Ch [98, 128] [] B w w5) {cs : Array Value} {m gr o : Value} {gf g1 b1 g2 b2 : Nat} (hk : w5.heap[gb]? = some (.cells cs 98 (0, 0))) (hg : GCs cs m gr o dk x.ss (n + 1) (jU L n gf g1 b1 g2 b2)) (hcf : qO w m gr) (hd : kL w5 dk (n + 1)) (hF : yT w5 gf g1 b1 1024 (Qi n) false) (hR : yt w5 g2 b2 1024 (Qo n))
    (hge : w.heap.size ≤ gf ∧ w.heap.size ≤ g1 ∧ w.heap.size ≤ b1 ∧ w.heap.size ≤ g2 ∧ w.heap.size ≤ b2) (hgb : gb < w.heap.size) (hdk : dk < w.heap.size) (h5 : gf ≠ g2 ∧ gf ≠ b2 ∧ g1 ≠ g2 ∧ g1 ≠ b2 ∧ b1 ≠ g2 ∧ b1 ≠ b2) : zR w5 B N x g gb dk (n + 1) (jU L n gf g1 b1 g2 b2) Qi Qo := by
  have kp : ∀ {b t : Nat}, (∃ cs f, w.heap[b]? = some (.cells cs t f)) → t ∉ [98, 128] → w5.heap[b]? = w.heap[b]? := fun ⟨cs, f, e⟩ ht => (hch.cell e ht).trans e.symm
  have hge2 : ∀ i, i < 5 → w.heap.size ≤ jU L n gf g1 b1 g2 b2 n i := fun i hi => by
    rw [jC]
    obtain rfl | rfl | rfl | rfl | rfl : i = 0 ∨ i = 1 ∨ i = 2 ∨ i = 3 ∨ i = 4 := by omega
    · exact hge.1
    · exact hge.2.1
    · exact hge.2.2.1
    · exact hge.2.2.2.1
    · exact hge.2.2.2.2
  refine ⟨⟨cs, m, gr, o, hk, hg, hcf.chT hch (by decide) (by decide)⟩, hd, h.slv.chT hch (by decide), fun c hc => ?_, fun c hc => ?_, fun c i hc hi => ?_, zbv h.ap (h.lt) hge2 (zca hF.ne.1 hF.ne.2 hF.r.ne hR.ne h5.1 h5.2.1 h5.2.2.1 h5.2.2.2.1 h5.2.2.2.2.1 h5.2.2.2.2.2)⟩
  · by_cases e : c = n
    · subst e
      rw [jC, jC, jC]
      exact hF
    · rw [qP _ _ _ _ _ _ _ c 0 e, qP _ _ _ _ _ _ _ c 1 e, qP _ _ _ _ _ _ _ c 2 e]
      obtain ⟨k0, k1, k2⟩ := qi (h.fl c (by omega))
      exact yT.keep (h.fl c (by omega)) (kp k0 (by decide)) (kp k1 (by decide)) (kp k2 (by decide))
  · by_cases e : c = n
    · subst e
      rw [jC, jC]
      exact hR
    · rw [qP _ _ _ _ _ _ _ c 3 e, qP _ _ _ _ _ _ _ c 4 e]
      obtain ⟨k1, k2⟩ := jq (h.rg c (by omega))
      exact (h.rg c (by omega)).keep (kp k1 (by decide)) (kp k2 (by decide))
  · by_cases e : c = n
    · subst e
      have h1 := hge2 i hi
      have h2 := h.slv.lt
      refine ⟨by omega, by omega, by omega⟩
    · rw [qP _ _ _ _ _ _ _ c i e]
      exact h.lo c i (by omega) hi
open Go.Proofs.YtlalbohhopmpdaaGreat.Ring (yT yt xh qj)
def TT : List Nat := [133, 125, 118, 182, 210, 184, 186, 5, 98, 128, 53]
def none_ : Nat → List Int := fun _ => []
structure xz (w : World) (B N : Nat) (x : Ix) (g : Sg) (tb gb dk n : Nat) (L : Nat → Nat → Nat) (k : Int) : Prop where
  blk : w.heap[tb]? = some (.cells #[.pointer (some ⟨gb, 0, none⟩), .int .i64 k] 53 (0, 0))
  gt : zR w B N x g gb dk n L none_ none_
  le : B ≤ tb
theorem VH {B : Nat} {x : Ix} {w w1 : World} (h : Ch TG (MS x) B w w1) : Ch TT (MS x) B w w1 := h.mono (by decide) (fun _ hm => hm) h.isMap
theorem xz.below {w w1 : World} {B N : Nat} {x : Ix} {g : Sg} {tb gb dk n : Nat} {L : Nat → Nat → Nat} {k : Int} (h : xz w B N x g tb gb dk n L k) (hb : Below w.heap.size w w1) : xz w1 B N x g tb gb dk n L k := ⟨zb h.blk hb, h.gt.below hb, h.le⟩
theorem xz.chb {w w1 : World} {B N : Nat} {x : Ix} {g : Sg} {tb gb dk n : Nat} {L : Nat → Nat → Nat} {k : Int} (h : xz w B N x g tb gb dk n L k) (hb : Below w.heap.size w w1) : Ch TT (MS x) B w w1 := VH (h.gt.chb hb)
theorem xz.count {w : World} {B N : Nat} {x : Ix} {g : Sg} {tb gb dk n : Nat} {L : Nat → Nat → Nat} {k : Int} (h : xz w B N x g tb gb dk n L k) (k' : Int) : xz (w.setCell ⟨tb, 1, none⟩ (.int .i64 k')) B N x g tb gb dk n L k' ∧ Ch TT (MS x) B w (w.setCell ⟨tb, 1, none⟩ (.int .i64 k')) :=
  ⟨⟨blk_set (i := 1) (v := .int .i64 k') h.blk, h.gt.chT (Ch.set (T := [53]) (M := []) h.blk (by decide) h.le (fun m hm => (by cases hm)) _) (by decide), h.le⟩, (Ch.set (T := [53]) (M := []) h.blk (by decide) h.le (fun m hm => (by cases hm)) _).mono (by decide) (fun m hm => (by cases hm)) h.gt.slv.isMap⟩
theorem XM (c : Nat) (q : List Int) : ja (ja none_ c q) c [] = none_ := by
  funext k
  unfold ja none_
  split <;> rfl
theorem ZO (c : Nat) (q : List Int) : ja none_ c q c = q := if_pos rfl
end Go.Proofs.YtlalbohhopmpdaaGreat.Top
namespace Go.Proofs.YtlalbohhopmpdaaGreat.LemWithinTop
open Go.RowKit Go.Proofs.YtlalbohhopmpdaaGreat.PTop Go.YW.PrintWords Go.YW.PrintLast Go.YW.PrintMore Go.Proofs.YtlalbohhopmpdaaGreat.Num
theorem within_eq (x n : Int) (hn : 0 < n) (hn2 : n < 4611686018427387904) : zK.f x n = some (x % n) := by
  have h0 := Int.emod_nonneg x (show n ≠ 0 by omega)
  have h1 := Int.emod_lt_of_pos x hn
  have ht := Int.tmod_eq_emod (a := x) (b := n)
  have hna : (n.natAbs : Int) = n := by omega
  unfold zK.f
  rw [if_neg (by omega)]
  by_cases hc : 0 ≤ x ∨ n ∣ x
  · rw [if_pos hc] at ht
    rw [if_neg (by omega)]
    congr 1
    omega
  · rw [if_neg hc, hna] at ht
    have hne : x % n ≠ 0 := fun h => hc (.inr (Int.dvd_of_emod_eq_zero h))
    rw [if_pos (by omega), zu (by omega) (by omega)]
    congr 1
    omega
end Go.Proofs.YtlalbohhopmpdaaGreat.LemWithinTop
namespace Go.Proofs.YtlalbohhopmpdaaGreat.LemDigitTop
open Go.RowKit Go.Proofs.YtlalbohhopmpdaaGreat.PTop Go.YW.PrintWords Go.YW.PrintLast Go.YW.PrintMore Go.Proofs.YtlalbohhopmpdaaGreat.Num Go.Proofs.YtlalbohhopmpdaaGreat.LemWithinTop
theorem digit_eq (n d m : Int) (hn : -9223372036854775808 ≤ n ∧ n < 9223372036854775808) (hd : 2 ≤ d) (hm : 0 < m) (hm2 : m < 4611686018427387904) : yz.f n d m = some (Int.tdiv n d % m) := by
  unfold yz.f
  have h : -9223372036854775808 ≤ Int.tdiv n d ∧ Int.tdiv n d < 9223372036854775808 := by
    have h3 : (Int.natAbs (Int.tdiv n d)) ≤ Int.natAbs n / 2 := by rw [Int.natAbs_tdiv]; exact Nat.div_le_div_left (by omega) (by omega)
    omega
  rw [if_neg (by omega), zu h.1 h.2, within_eq _ m hm hm2]
  rfl
end Go.Proofs.YtlalbohhopmpdaaGreat.LemDigitTop
namespace Go.Proofs.YtlalbohhopmpdaaGreat.LemAskCTop
open Go.RowKit Go.Proofs.YtlalbohhopmpdaaGreat.PTop Go.YW.PrintWords Go.YW.PrintLast Go.YW.PrintMore Go.Proofs.YtlalbohhopmpdaaGreat.Num Go.Proofs.YtlalbohhopmpdaaGreat.LemWithinTop Go.Proofs.YtlalbohhopmpdaaGreat.LemDigitTop Go.Proofs.YtlalbohhopmpdaaGreat.LemHeadTop Go.Proofs.YtlalbohhopmpdaaGreat.LemAskBTop
theorem zcu (l : List Int) (w : Int) (h0 : 0 ≤ w) (h1 : w < 65536) (hl : l.length ≤ 1000) : yH.f l w = some (l ++ [w / 256, w % 256]) := zdv l w h0 h1 (by omega)
end Go.Proofs.YtlalbohhopmpdaaGreat.LemAskCTop
namespace Go.Proofs.YtlalbohhopmpdaaGreat.Top
open Go.RowKit Go.Proofs.YtlalbohhopmpdaaGreat.PTop Go.YW.PrintWords Go.YW.PrintLast Go.YW.PrintMore Go.Proofs.YtlalbohhopmpdaaGreat.Num Go.Proofs.YtlalbohhopmpdaaGreat.LemAskCTop
attribute [local go_sem] zk zo
theorem zcv (w : World) (a n : Int) : Calls Tryz.prog 155 #[jF a n] w fun e w' => e = .returned (.bool true) ∧ Below w.heap.size w w' := by
  have hu37 := Tryz.underlying37
  obtain ⟨x0, x1, x2, x3, x4, x5, x6, x7, x8, x9, x10, x11⟩ := zV (zi w (.cells #[.int .i64 3, .int .i64 a, .int .i64 n, .int .u16 0, .int .u16 0, .int .u16 0, .slice none 0 0, .slice none 0 0, .int .i64 0, .int .i64 0, .int .i64 0, .int .i64 0] 37))
  have B1 := hQ (show Below w.heap.size w (w.alloc (.cells #[.int .i64 3, .int .i64 a, .int .i64 n, .int .u16 0, .int .u16 0, .int .u16 0, .slice none 0 0, .slice none 0 0, .int .i64 0, .int .i64 0, .int .i64 0, .int .i64 0] 37)) from (Below.refl _ _).alloc (Nat.le_refl _) _)
  simp only [jF]
  go_enter Tryz.func155, Tryz.ntmps155
  go_wp2
  exact bodyPost_ret (v := .bool true) (by simp [results, Tryz.results155, go_sem]) rfl ⟨rfl, B1.out⟩
theorem zbu (w : World) (a v : Int) : Calls Tryz.prog 155 #[qF a v] w fun e w' => e = .returned (.bool true) ∧ Below w.heap.size w w' := by
  have hu37 := Tryz.underlying37
  obtain ⟨x0, x1, x2, x3, x4, x5, x6, x7, x8, x9, x10, x11⟩ := zV (zi w (.cells #[.int .i64 6, .int .i64 a, .int .i64 0, .int .u16 v, .int .u16 0, .int .u16 0, .slice none 0 0, .slice none 0 0, .int .i64 0, .int .i64 0, .int .i64 0, .int .i64 0] 37))
  have B1 := hQ (show Below w.heap.size w (w.alloc (.cells #[.int .i64 6, .int .i64 a, .int .i64 0, .int .u16 v, .int .u16 0, .int .u16 0, .slice none 0 0, .slice none 0 0, .int .i64 0, .int .i64 0, .int .i64 0, .int .i64 0] 37)) from (Below.refl _ _).alloc (Nat.le_refl _) _)
  simp only [qF]
  go_enter Tryz.func155, Tryz.ntmps155
  go_wp2
  exact bodyPost_ret (v := .bool true) (by simp [results, Tryz.results155, go_sem]) rfl ⟨rfl, B1.out⟩
theorem zaN (a : Int) (h : 0 ≤ a ∧ a < 65536) : qh.f a = some true := by
  unfold qh.f
  rw [if_pos (by omega), decide_eq_true (by omega)]
theorem zbF (w : World) (a n : Int) (ha : 0 ≤ a ∧ a < 65536) (hn : 1 ≤ n ∧ n ≤ 125) : Calls Tryz.prog 117 #[jF a n] w fun e w' => e = .returned (.bool true) ∧ Below w.heap.size w w' := by
  have hu37 := Tryz.underlying37
  have X1 := hQ (zi w (.cells #[.int .i64 3, .int .i64 a, .int .i64 n, .int .u16 0, .int .u16 0, .int .u16 0, .slice none 0 0, .slice none 0 0, .int .i64 0, .int .i64 0, .int .i64 0, .int .i64 0] 37))
  obtain ⟨x0, x1, x2, x3, x4, x5, x6, x7, x8, x9, x10, x11⟩ := zV X1.out
  have B1 := hQ (show Below w.heap.size w (w.alloc (.cells #[.int .i64 3, .int .i64 a, .int .i64 n, .int .u16 0, .int .u16 0, .int .u16 0, .slice none 0 0, .slice none 0 0, .int .i64 0, .int .i64 0, .int .i64 0, .int .i64 0] 37)) from (Below.refl _ _).alloc (Nat.le_refl _) _)
  have hP := fun w => zcv w a n
  have hA := hQ ha
  have d1 : decide (n ≥ 1) = true := decide_eq_true (by omega)
  have d2 : decide (n ≤ 125) = true := decide_eq_true (by omega)
  simp only [jF] at hP ⊢
  go_enter Tryz.func117, Tryz.ntmps117
  go_wp2_with (fail)
  refine (zci _).mono ?_
  rintro e w2 ⟨rfl, hd⟩
  have B2 := hQ (zf B1.out B1.out.size hd.below)
  have X2 := hQ (zb X1.out hd.below)
  clear hd x0 x1 x2 x3 x4 x5 x6 x7 x8 x9 x10 x11
  obtain ⟨x0, x1, x2, x3, x4, x5, x6, x7, x8, x9, x10, x11⟩ := zV X2.out
  go_wp2_with (fail)
  refine (hP _).mono ?_
  rintro e w3 ⟨rfl, hd⟩
  have B3 := hQ (zf B2.out B2.out.size hd)
  have X3 := hQ (zb X2.out hd)
  clear hd x0 x1 x2 x3 x4 x5 x6 x7 x8 x9 x10 x11
  obtain ⟨x0, x1, x2, x3, x4, x5, x6, x7, x8, x9, x10, x11⟩ := zV X3.out
  go_wp2_with (fail)
  refine (Xd _ a hA.out).mono ?_
  rintro e w4 ⟨rfl, hd⟩
  have B4 := hQ (zf B3.out B3.out.size hd.below)
  have X4 := hQ (zb X3.out hd.below)
  clear hd x0 x1 x2 x3 x4 x5 x6 x7 x8 x9 x10 x11
  obtain ⟨x0, x1, x2, x3, x4, x5, x6, x7, x8, x9, x10, x11⟩ := zV X4.out
  go_wp2_with (fail)
  refine (Xd _ 0 (by decide)).mono ?_
  rintro e w5 ⟨rfl, hd⟩
  have B5 := hQ (zf B4.out B4.out.size hd.below)
  have X5 := hQ (zb X4.out hd.below)
  clear hd x0 x1 x2 x3 x4 x5 x6 x7 x8 x9 x10 x11
  obtain ⟨x0, x1, x2, x3, x4, x5, x6, x7, x8, x9, x10, x11⟩ := zV X5.out
  go_wp2_with (fail)
  refine (zaW _).mono ?_
  rintro e w6 ⟨rfl, hd⟩
  have B6 := hQ (zf B5.out B5.out.size hd.below)
  have X6 := hQ (zb X5.out hd.below)
  clear hd x0 x1 x2 x3 x4 x5 x6 x7 x8 x9 x10 x11
  obtain ⟨x0, x1, x2, x3, x4, x5, x6, x7, x8, x9, x10, x11⟩ := zV X6.out
  go_wp2_with (fail)
  exact bodyPost_ret (v := .bool true) (by simp [results, Tryz.results117, go_sem]) rfl ⟨rfl, B6.out⟩
theorem zbJ (w : World) (a v : Int) (ha : 0 ≤ a ∧ a < 65536) (hv : 0 ≤ v ∧ v < 65536) : Calls Tryz.prog 117 #[qF a v] w fun e w' => e = .returned (.bool true) ∧ Below w.heap.size w w' := by
  have hu37 := Tryz.underlying37
  have X1 := hQ (zi w (.cells #[.int .i64 6, .int .i64 a, .int .i64 0, .int .u16 v, .int .u16 0, .int .u16 0, .slice none 0 0, .slice none 0 0, .int .i64 0, .int .i64 0, .int .i64 0, .int .i64 0] 37))
  obtain ⟨x0, x1, x2, x3, x4, x5, x6, x7, x8, x9, x10, x11⟩ := zV X1.out
  have B1 := hQ (show Below w.heap.size w (w.alloc (.cells #[.int .i64 6, .int .i64 a, .int .i64 0, .int .u16 v, .int .u16 0, .int .u16 0, .slice none 0 0, .slice none 0 0, .int .i64 0, .int .i64 0, .int .i64 0, .int .i64 0] 37)) from (Below.refl _ _).alloc (Nat.le_refl _) _)
  have hP := fun w => zbu w a v
  have hA := hQ ha
  simp only [qF] at hP ⊢
  go_enter Tryz.func117, Tryz.ntmps117
  go_wp2_with (fail)
  refine (zb2 _).mono ?_
  rintro e w2 ⟨rfl, hd⟩
  have B2 := hQ (zf B1.out B1.out.size hd.below)
  have X2 := hQ (zb X1.out hd.below)
  clear hd x0 x1 x2 x3 x4 x5 x6 x7 x8 x9 x10 x11
  obtain ⟨x0, x1, x2, x3, x4, x5, x6, x7, x8, x9, x10, x11⟩ := zV X2.out
  go_wp2_with (fail)
  refine (hP _).mono ?_
  rintro e w3 ⟨rfl, hd⟩
  have B3 := hQ (zf B2.out B2.out.size hd)
  have X3 := hQ (zb X2.out hd)
  clear hd x0 x1 x2 x3 x4 x5 x6 x7 x8 x9 x10 x11
  obtain ⟨x0, x1, x2, x3, x4, x5, x6, x7, x8, x9, x10, x11⟩ := zV X3.out
  go_wp2_with (fail)
  refine (Xd _ a hA.out).mono ?_
  rintro e w4 ⟨rfl, hd⟩
  have B4 := hQ (zf B3.out B3.out.size hd.below)
  have X4 := hQ (zb X3.out hd.below)
  clear hd x0 x1 x2 x3 x4 x5 x6 x7 x8 x9 x10 x11
  obtain ⟨x0, x1, x2, x3, x4, x5, x6, x7, x8, x9, x10, x11⟩ := zV X4.out
  go_wp2_with (fail)
  refine (Xd _ 0 (by decide)).mono ?_
  rintro e w5 ⟨rfl, hd⟩
  have B5 := hQ (zf B4.out B4.out.size hd.below)
  have X5 := hQ (zb X4.out hd.below)
  clear hd x0 x1 x2 x3 x4 x5 x6 x7 x8 x9 x10 x11
  obtain ⟨x0, x1, x2, x3, x4, x5, x6, x7, x8, x9, x10, x11⟩ := zV X5.out
  go_wp2_with (fail)
  refine (za2 _).mono ?_
  rintro e w6 ⟨rfl, hd⟩
  have B6 := hQ (zf B5.out B5.out.size hd.below)
  have X6 := hQ (zb X5.out hd.below)
  clear hd x0 x1 x2 x3 x4 x5 x6 x7 x8 x9 x10 x11
  obtain ⟨x0, x1, x2, x3, x4, x5, x6, x7, x8, x9, x10, x11⟩ := zV X6.out
  go_wp2_with (fail)
  exact bodyPost_ret (v := .bool true) (by simp [results, Tryz.results117, go_sem]) rfl ⟨rfl, B6.out⟩
theorem ZC (l : List Int) (x : Int) (hx : 0 ≤ x ∧ x < 65536) (hl : l.length ≤ 1000) : yH.f l x = some (l ++ [x / 256, x % 256]) := zcu l x hx.1 hx.2 hl
theorem Vo (w : World) (a n : Int) (ha : 0 ≤ a ∧ a < 65536) (hn : 1 ≤ n ∧ n ≤ 125) : Calls Tryz.prog 79 #[jF a n] w fun e w' => ∃ A c, e = .returned (.tuple #[.slice A 5 c, .int .i64 0]) ∧ Kd.R (Kd.int .u8) 5 w' w.heap.size (fun _ => True) (.slice A 5 c) [3, a / 256, a % 256, n / 256, n % 256] ∧ Below w.heap.size w w' := by
  have hu37 := Tryz.underlying37
  have X1 := hQ (zi w (.cells #[.int .i64 3, .int .i64 a, .int .i64 n, .int .u16 0, .int .u16 0, .int .u16 0, .slice none 0 0, .slice none 0 0, .int .i64 0, .int .i64 0, .int .i64 0, .int .i64 0] 37))
  obtain ⟨x0, x1, x2, x3, x4, x5, x6, x7, x8, x9, x10, x11⟩ := zV X1.out
  have B1 := hQ (show Below w.heap.size w (w.alloc (.cells #[.int .i64 3, .int .i64 a, .int .i64 n, .int .u16 0, .int .u16 0, .int .u16 0, .slice none 0 0, .slice none 0 0, .int .i64 0, .int .i64 0, .int .i64 0, .int .i64 0] 37)) from (Below.refl _ _).alloc (Nat.le_refl _) _)
  have hP := fun w => zbF w a n ha hn
  have T1 := hQ (ZC [3] a ha (by decide))
  have T2 := hQ (ZC [3, a / 256, a % 256] n (by omega) (by simp))
  have hw : IntKind.i64.wrap n = n := by rw [xy]; exact zu (by omega) (by omega)
  have hw8 : IntKind.u8.wrap 3 = 3 := rfl
  simp only [jF] at hP ⊢
  go_enter Tryz.func79, Tryz.ntmps79
  go_wp2_with (fail)
  refine (hP _).mono ?_
  rintro e w3 ⟨rfl, hd⟩
  have B3 := hQ (zf B1.out B1.out.size hd)
  have X3 := hQ (zb X1.out hd)
  clear hd x0 x1 x2 x3 x4 x5 x6 x7 x8 x9 x10 x11
  obtain ⟨x0, x1, x2, x3, x4, x5, x6, x7, x8, x9, x10, x11⟩ := zV X3.out
  obtain ⟨W4, hW4⟩ : ∃ W4, W4 = w3.alloc (.cells #[.int .u8 3] 5) := ⟨_, rfl⟩
  have hb4 : Below w3.heap.size w3 W4 := by rw [hW4]; exact (Below.refl _ _).alloc (Nat.le_refl _) _
  have B4 := hQ (zf B3.out B3.out.size hb4)
  have X4 := hQ (zb X3.out hb4)
  have C4 := hQ (show Kd.C (Kd.int .u8) W4 (some ⟨w3.heap.size, 0, none⟩) 1 [3] by rw [hW4]; exact QD (k := .u8) (e := 5) w3 [3] _ rfl (by simp))
  obtain ⟨y0, y1, y2, y3, y4, y5, y6, y7, y8, y9, y10, y11⟩ := zV X4.out
  rw [hW4] at B4 X4 C4 y0 y1 y2 y3 y4 y5 y6 y7 y8 y9 y10 y11
  clear hb4 hW4
  go_wp2_with (fail)
  go_region_law (first | (go_simp; go_at_call 118; refine (yH.calls _ 1 [3] a _ _ (Kd.zx C4.out (zl (Below.refl _ _))) (Nat.le_refl _) T1.out).mono ?_; rintro e w5 ⟨v5, rfl, hr, hb⟩; obtain ⟨A5, c5, hv0⟩ := Kd.yc hr; have hv1 : v5 = .slice A5 3 c5 := hv0; clear hv0; subst hv1; have B5 := hQ (zf (B4.out.trans (zl (Below.refl _ _))) (Nat.le_trans B4.out.size (Nat.le_refl _)) hb); have X5 := hQ (zb (zb X4.out (zl (Below.refl _ _))) hb); obtain ⟨x0, x1, x2, x3, x4, x5, x6, x7, x8, x9, x10, x11⟩ := zV X5.out; have R5 := hQ (Kd.zU hr B4.out.size); clear hr hb) | (go_simp; go_at_call 118; refine (yH.calls A5 c5 [3, a / 256, a % 256] n _ _ ((Kd.zB R5.out).2.2) ((Kd.zB R5.out).2.1) T2.out).mono ?_; rintro e w6 ⟨v6, rfl, hr, hb⟩; obtain ⟨A6, c6, hv0⟩ := Kd.yc hr; have hv1 : v6 = .slice A6 5 c6 := hv0; clear hv0; subst hv1; have B6 := hQ (zf B5.out B5.out.size hb); have X6 := hQ (zb X5.out hb); obtain ⟨x0, x1, x2, x3, x4, x5, x6, x7, x8, x9, x10, x11⟩ := zV X6.out; have R6 := hQ (Kd.zU hr B5.out.size); clear hr hb))
  all_goals
    go_wp2
    exact bodyPost_ret (v := .tuple #[.slice A6 5 c6, .int .i64 0]) (by simp [results, Tryz.results79, go_sem]) rfl ⟨A6, c6, rfl, R6.out, B6.out⟩
theorem Kr (w : World) (a v : Int) (ha : 0 ≤ a ∧ a < 65536) (hv : 0 ≤ v ∧ v < 65536) : Calls Tryz.prog 79 #[qF a v] w fun e w' => ∃ A c, e = .returned (.tuple #[.slice A 5 c, .int .i64 0]) ∧ Kd.R (Kd.int .u8) 5 w' w.heap.size (fun _ => True) (.slice A 5 c) [6, a / 256, a % 256, v / 256, v % 256] ∧ Below w.heap.size w w' := by
  have hu37 := Tryz.underlying37
  have X1 := hQ (zi w (.cells #[.int .i64 6, .int .i64 a, .int .i64 0, .int .u16 v, .int .u16 0, .int .u16 0, .slice none 0 0, .slice none 0 0, .int .i64 0, .int .i64 0, .int .i64 0, .int .i64 0] 37))
  obtain ⟨x0, x1, x2, x3, x4, x5, x6, x7, x8, x9, x10, x11⟩ := zV X1.out
  have B1 := hQ (show Below w.heap.size w (w.alloc (.cells #[.int .i64 6, .int .i64 a, .int .i64 0, .int .u16 v, .int .u16 0, .int .u16 0, .slice none 0 0, .slice none 0 0, .int .i64 0, .int .i64 0, .int .i64 0, .int .i64 0] 37)) from (Below.refl _ _).alloc (Nat.le_refl _) _)
  have hP := fun w => zbJ w a v ha hv
  have T1 := hQ (ZC [6] a ha (by decide))
  have T2 := hQ (ZC [6, a / 256, a % 256] v (by omega) (by simp))
  have hw : IntKind.i64.wrap v = v := by rw [xy]; exact zu (by omega) (by omega)
  have hw8 : IntKind.u8.wrap 6 = 6 := rfl
  simp only [qF] at hP ⊢
  go_enter Tryz.func79, Tryz.ntmps79
  go_wp2_with (fail)
  refine (hP _).mono ?_
  rintro e w3 ⟨rfl, hd⟩
  have B3 := hQ (zf B1.out B1.out.size hd)
  have X3 := hQ (zb X1.out hd)
  clear hd x0 x1 x2 x3 x4 x5 x6 x7 x8 x9 x10 x11
  obtain ⟨x0, x1, x2, x3, x4, x5, x6, x7, x8, x9, x10, x11⟩ := zV X3.out
  obtain ⟨W4, hW4⟩ : ∃ W4, W4 = w3.alloc (.cells #[.int .u8 6] 5) := ⟨_, rfl⟩
  have hb4 : Below w3.heap.size w3 W4 := by rw [hW4]; exact (Below.refl _ _).alloc (Nat.le_refl _) _
  have B4 := hQ (zf B3.out B3.out.size hb4)
  have X4 := hQ (zb X3.out hb4)
  have C4 := hQ (show Kd.C (Kd.int .u8) W4 (some ⟨w3.heap.size, 0, none⟩) 1 [6] by rw [hW4]; exact QD (k := .u8) (e := 5) w3 [6] _ rfl (by simp))
  obtain ⟨y0, y1, y2, y3, y4, y5, y6, y7, y8, y9, y10, y11⟩ := zV X4.out
  rw [hW4] at B4 X4 C4 y0 y1 y2 y3 y4 y5 y6 y7 y8 y9 y10 y11
  clear hb4 hW4
  go_wp2_with (fail)
  go_region_law (first | (go_simp; go_at_call 118; refine (yH.calls _ 1 [6] a _ _ (Kd.zx C4.out (zl (Below.refl _ _))) (Nat.le_refl _) T1.out).mono ?_; rintro e w5 ⟨v5, rfl, hr, hb⟩; obtain ⟨A5, c5, hv0⟩ := Kd.yc hr; have hv1 : v5 = .slice A5 3 c5 := hv0; clear hv0; subst hv1; have B5 := hQ (zf (B4.out.trans (zl (Below.refl _ _))) (Nat.le_trans B4.out.size (Nat.le_refl _)) hb); have X5 := hQ (zb (zb X4.out (zl (Below.refl _ _))) hb); obtain ⟨x0, x1, x2, x3, x4, x5, x6, x7, x8, x9, x10, x11⟩ := zV X5.out; have R5 := hQ (Kd.zU hr B4.out.size); clear hr hb) | (go_simp; go_at_call 118; refine (yH.calls A5 c5 [6, a / 256, a % 256] v _ _ ((Kd.zB R5.out).2.2) ((Kd.zB R5.out).2.1) T2.out).mono ?_; rintro e w6 ⟨v6, rfl, hr, hb⟩; obtain ⟨A6, c6, hv0⟩ := Kd.yc hr; have hv1 : v6 = .slice A6 5 c6 := hv0; clear hv0; subst hv1; have B6 := hQ (zf B5.out B5.out.size hb); have X6 := hQ (zb X5.out hb); obtain ⟨x0, x1, x2, x3, x4, x5, x6, x7, x8, x9, x10, x11⟩ := zV X6.out; have R6 := hQ (Kd.zU hr B5.out.size); clear hr hb))
  all_goals
    go_wp2
    exact bodyPost_ret (v := .tuple #[.slice A6 5 c6, .int .i64 0]) (by simp [results, Tryz.results79, go_sem]) rfl ⟨A6, c6, rfl, R6.out, B6.out⟩
end Go.Proofs.YtlalbohhopmpdaaGreat.Top
