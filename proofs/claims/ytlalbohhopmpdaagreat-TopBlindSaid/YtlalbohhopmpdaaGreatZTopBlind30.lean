/- Words and walks for TopBlind (made of the session's own texts; each part by itself). -/
import Derived.Deep.DeepCutAuto
import Derived.Deep.DeepMust
import Derived.Deep.RegionLaw
import Derived.Test.YtlalbohhopmpdaaGreatZTopBlind28
import Derived.Test.YtlalbohhopmpdaaGreatZTopBlind29
set_option maxRecDepth 100000
set_option maxHeartbeats 8000000
set_option linter.unusedVariables false
set_option linter.unusedSimpArgs false
namespace Go.Proofs.YtlalbohhopmpdaaGreat.Top
open Go.Proofs.YtlalbohhopmpdaaGreat.Tiny
open Go.RowKit Go.Proofs.YtlalbohhopmpdaaGreat.PTop Go.YW.PrintWords Go.YW.PrintLast Go.YW.PrintMore Go.Proofs.YtlalbohhopmpdaaGreat.Num
open Go.Proofs.YtlalbohhopmpdaaGreat.Ring (yT yt xh qj Zr)
open Go.Proofs.YtlalbohhopmpdaaGreat.LemHeadTop Go.Proofs.YtlalbohhopmpdaaGreat.LemAduTop
attribute [local go_sem] zk zo
theorem zdn (A B : Option Addr) (n m c d : Nat) (W : World) : (Instr.index 49 (.agg #[.slice A n c, .slice B m d]) (.int .i64 0)).run Tryz.prog W = .ok (.slice A n c) W := by kernel_rfl
theorem zc8 (A B : Option Addr) (n m c d : Nat) (W : World) : (Instr.index 49 (.agg #[.slice A n c, .slice B m d]) (.int .i64 1)).run Tryz.prog W = .ok (.slice B m d) W := by kernel_rfl
theorem Kq (w : World) (A0 : Option Addr) (c0 : Nat) (la : List Int) (A1 : Option Addr) (c1 : Nat) (lb : List Int) (f : Bool) (hA : Kd.C (Kd.int .i64) w A0 la.length la) (hB : Kd.C (Kd.int .i64) w A1 lb.length lb) (wa : ∀ x ∈ la, (Lit.int .i64 x).wf = true) (wb : ∀ x ∈ lb, (Lit.int .i64 x).wf = true) (k0 : la.length ≤ c0) (k1 : lb.length ≤ c1)
    (h : 1 ≤ la.length ∧ 1 ≤ lb.length ∧ la.length ≤ 12 ∧ lb.length ≤ 12) :
    Calls Tryz.prog 4 #[.slice A0 la.length c0, .slice A1 lb.length c1, .bool f] w fun e w' => e = .returned (.bool true) ∧ Below w.heap.size w w' := by
  have hu41 := Tryz.underlying41
  have hu37 := Tryz.underlying37
  have hu45 := Tryz.underlying45
  have hu47 := Tryz.underlying47
  have hu48 := Tryz.underlying48
  have hu49 := Tryz.underlying49
  have d0 : decide ((la.length : Int) < 1) = false := decide_eq_false (by omega)
  have d1 : decide ((lb.length : Int) < 1) = false := decide_eq_false (by omega)
  have hlg := Vx la lb false (decide_eq_false (show ¬ ((la.length : Int) > 12 ∨ (lb.length : Int) > 12) by omega)).symm
  have hOrd1 := fun w : World => YI w 1 (by omega)
  have hOrd2 := fun w : World => YI w 2 (by omega)
  simp only [qF] at hOrd1 hOrd2
  have hi0 := zdn
  have hi1 := zc8
  have HA := hQ hA
  have HB := hQ hB
  have HL := hQ h
  have WA := hQ wa
  have WB := hQ wb
  clear h hA hB wa wb
  go_enter Tryz.func4, Tryz.ntmps4
  go_wp2_with (first | (go_at_call 11; refine (qo.calls A0 c0 la A1 c1 lb 12 false _ HA.out k0 HB.out k1 hlg).mono ?_; rintro e w1 ⟨rfl, hb1⟩; have B0 := hQ hb1.below; clear hb1) | (go_at_call 5; refine (kM _).mono ?_; rintro e w2 ⟨rfl, hb2⟩; have B1 := hQ (zf B0.out B0.out.size hb2); clear hb2))
  clear hlg d0 d1 k0 k1
  refine (zaB _).mono ?_
  rintro e w3 ⟨v0, v1, v12, rfl, h0, h1, h2, hb2⟩
  obtain ⟨Am, cm, rfl⟩ := Kd.yc h0
  obtain ⟨Ag, cg, rfl⟩ := Kd.yc h1
  obtain ⟨Ao, co, rfl⟩ := Kd.yc h2
  have hO := KN w3 Am Ag Ao cm cg co (Kd.zB h0).2.2 (Kd.zB h0).2.1 (Kd.zB h1).2.2 (Kd.zB h1).2.1 (Kd.zB h2).2.2 (Kd.zB h2).2.1
  have B3 := hQ (zf B1.out B1.out.size hb2)
  clear h0 h1 h2 hb2
  go_wp2_with (fail)
  refine hO.mono ?_
  rintro e w4 ⟨tb, rfl, gb, dk, ix, L, hT, hx, hb4⟩
  have T4 := hQ hT
  have HX := hQ hx
  have E4 := hQ hb4
  clear hT hx hb4 hO
  go_wp2_with (fail)
  --LOOPS
  refine wp_loop_rounds 3 ?_
  rw [rounds_succ]
  go_wp2_with (fail)
  refine (hOrd1 _).mono ?_
  rintro e o5 ⟨rfl, hbw⟩
  have T5 := hQ (T4.out.below hbw)
  have E5 := hQ (zf E4.out E4.out.size hbw)
  clear hbw
  go_wp2_with (fail)
  have hs : yV _ _ 4 _ _ _ _ _ _ _ _ _ _ _ _ _ _ _ _ _ := bs1 T5.out HX.out.1
  simp only [yV, yu, zW] at hs
  refine hs.mono ?_
  clear hs
  rintro e v6 ⟨A6, q6, rfl, hr, hT, hc⟩
  have hE := zf (hc.below E5.out) (Nat.le_trans E5.out.size hc.size) (zy (Below.refl _ _) (.cells #[.int .i64 6, .int .i64 0, .slice none 0 0, .slice A6 0 q6, .int .i64 100, .int .i64 0, .int .u16 1, .int .u16 0, .int .u16 0, .int .i64 0, .int .i64 0, .bool false, .int .i64 0, .slice none 0 0] 41))
  have hbw : Below v6.heap.size v6 (v6.alloc (.cells #[.int .i64 6, .int .i64 0, .slice none 0 0, .slice A6 0 q6, .int .i64 100, .int .i64 0, .int .u16 1, .int .u16 0, .int .u16 0, .int .i64 0, .int .i64 0, .bool false, .int .i64 0, .slice none 0 0] 41)) := (Below.refl _ _).alloc (Nat.le_refl _) _
  have T6 := hQ (hT.below hbw)
  have E6 := hQ hE
  clear hr hT hc hE hbw
  go_wp2_with (fail)
  rw [rounds_succ]
  go_wp2_with (fail)
  refine (hOrd1 _).mono ?_
  rintro e o7 ⟨rfl, hbw⟩
  have T7 := hQ (T6.out.below hbw)
  have E7 := hQ (zf E6.out E6.out.size hbw)
  clear hbw
  go_wp2_with (fail)
  have hs : yV _ _ 8 _ _ _ _ _ _ _ _ _ _ _ _ _ _ _ _ _ := bs2 T7.out HX.out.1
  simp only [yV, yu, zW] at hs
  refine hs.mono ?_
  clear hs
  rintro e v8 ⟨A8, q8, rfl, hr, hT, hc⟩
  have hE := zf (hc.below E7.out) (Nat.le_trans E7.out.size hc.size) (zy (Below.refl _ _) (.cells #[.int .i64 6, .int .i64 0, .slice none 0 0, .slice A8 0 q8, .int .i64 100, .int .i64 0, .int .u16 1, .int .u16 0, .int .u16 0, .int .i64 0, .int .i64 0, .bool false, .int .i64 0, .slice none 0 0] 41))
  have hbw : Below v8.heap.size v8 (v8.alloc (.cells #[.int .i64 6, .int .i64 0, .slice none 0 0, .slice A8 0 q8, .int .i64 100, .int .i64 0, .int .u16 1, .int .u16 0, .int .u16 0, .int .i64 0, .int .i64 0, .bool false, .int .i64 0, .slice none 0 0] 41)) := (Below.refl _ _).alloc (Nat.le_refl _) _
  have T8 := hQ (hT.below hbw)
  have E8 := hQ hE
  clear hr hT hc hE hbw
  go_wp2_with (fail)
  rw [rounds_succ]
  go_wp2_with (fail)
  have hba := zy (Below.refl (v8.alloc (.cells #[.int .i64 6, .int .i64 0, .slice none 0 0, .slice A8 0 q8, .int .i64 100, .int .i64 0, .int .u16 1, .int .u16 0, .int .u16 0, .int .i64 0, .int .i64 0, .bool false, .int .i64 0, .slice none 0 0] 41)).heap.size (v8.alloc (.cells #[.int .i64 6, .int .i64 0, .slice none 0 0, .slice A8 0 q8, .int .i64 100, .int .i64 0, .int .u16 1, .int .u16 0, .int .u16 0, .int .i64 0, .int .i64 0, .bool false, .int .i64 0, .slice none 0 0] 41))) (.cells #[.int .i64 0, .int .i64 0, .int .i64 0, .int .i64 0, .int .i64 0, .int .i64 0, .int .i64 0, .int .i64 0, .int .i64 0, .int .i64 0, .int .i64 0, .int .i64 0, .int .i64 0, .int .i64 0, .int .i64 0, .int .i64 0, .int .i64 0, .int .i64 0, .int .i64 0, .int .i64 0, .int .i64 0, .int .i64 0, .int .i64 0, .int .i64 0, .int .i64 0, .int .i64 0, .int .i64 0, .int .i64 0, .int .i64 0, .int .i64 0, .int .i64 0, .int .i64 0] 48)
  have hz := Wz (v8.alloc (.cells #[.int .i64 6, .int .i64 0, .slice none 0 0, .slice A8 0 q8, .int .i64 100, .int .i64 0, .int .u16 1, .int .u16 0, .int .u16 0, .int .i64 0, .int .i64 0, .bool false, .int .i64 0, .slice none 0 0] 41))
  have T9 := hQ (T8.out.below hba)
  have E9 := hQ (zf E8.out E8.out.size hba)
  have hsz := E8.out.size
  rw [show (v8.alloc (.cells #[.int .i64 6, .int .i64 0, .slice none 0 0, .slice A8 0 q8, .int .i64 100, .int .i64 0, .int .u16 1, .int .u16 0, .int .u16 0, .int .i64 0, .int .i64 0, .bool false, .int .i64 0, .slice none 0 0] 41)).heap.size = v8.heap.size + 1 by simp] at hz hsz
  have Z9 := hQ hz
  have HB9 := hQ hsz
  clear hba hz hsz T8 E8
  generalize (v8.alloc (.cells #[.int .i64 6, .int .i64 0, .slice none 0 0, .slice A8 0 q8, .int .i64 100, .int .i64 0, .int .u16 1, .int .u16 0, .int .u16 0, .int .i64 0, .int .i64 0, .bool false, .int .i64 0, .slice none 0 0] 41)).alloc (.cells #[.int .i64 0, .int .i64 0, .int .i64 0, .int .i64 0, .int .i64 0, .int .i64 0, .int .i64 0, .int .i64 0, .int .i64 0, .int .i64 0, .int .i64 0, .int .i64 0, .int .i64 0, .int .i64 0, .int .i64 0, .int .i64 0, .int .i64 0, .int .i64 0, .int .i64 0, .int .i64 0, .int .i64 0, .int .i64 0, .int .i64 0, .int .i64 0, .int .i64 0, .int .i64 0, .int .i64 0, .int .i64 0, .int .i64 0, .int .i64 0, .int .i64 0, .int .i64 0] 48) = W9 at *
  generalize v8.heap.size + 1 = b at *
  refine wp_loop_rounds 3 ?_
  rw [rounds_succ]
  go_wp2_with (fail)
  go_loopg [14] la.length (fun g_ v14 wx => ∃ j : Nat, j + g_ = la.length ∧ v14 = .int .i64 (j : Int) ∧ ze (∃ gg, St gg (xA (la.take j)) (xA []) ∧ xz wx w3.heap.size (8 + 2 * (j)) ix gg tb gb dk 3 L (2 + ((j : Nat) : Int))) ∧ ze (jc b (kP (la.take j) []) wx) ∧ ze (Below w3.heap.size w3 wx))
  case atStart => exact ⟨0, by omega, rfl, ⟨_, zd0, T9.out⟩, ⟨Z9.out⟩, ⟨E9.out⟩⟩
  case round =>
    obtain ⟨j, hj, rfl, HT, HZ, HE⟩ := hrel
    clear T9 Z9 E9
    by_cases hlt : j < la.length
    · have hd : decide ((j : Int) < (la.length : Int)) = true := decide_eq_true (by omega)
      go_wp2_with (fail)
      obtain ⟨ad, eA, hcz⟩ := Kd.qH (Kd.zx HA.out (zf B3.out B3.out.size HE.out)) (j : Int) (by omega) (by omega)
      cases eA
      obtain ⟨z, hz⟩ : ∃ z, z = rd la (j : Int) := ⟨_, rfl⟩
      rw [← hz, Int.toNat_natCast] at hcz
      have hzl : la[j]? = some z := by rw [hz]; exact zaH la j hlt
      have HZL := hQ hzl
      have HWZ := hQ (VA (WA.out z (List.mem_of_getElem? hzl)))
      obtain ⟨k, hk⟩ : ∃ k, k = j := ⟨_, rfl⟩
      obtain ⟨lA, hlA⟩ : ∃ lA, lA = la.take j := ⟨_, rfl⟩
      obtain ⟨lB, hlB⟩ : ∃ lB : List Int, lB = [] := ⟨_, rfl⟩
      have J0 := hQ (show JW w3.heap.size w3 ad j z b tb gb dk L ix k lA lB wr.drew from JW.below ⟨hcz, by rw [hk, hlA, hlB]; exact HT.out, by rw [hlA, hlB]; exact HZ.out, HE.out⟩ (zl (Below.refl _ _)))
      clear HT HZ HE hz hzl hd
      have q0 : ((j : Int) < (la.length : Int)) = True := eq_true (by omega)
      have q1 : (0 ≤ (j : Int)) = True := eq_true (by omega)
      have HJ := hQ (show j + gk = la.length ∧ j < la.length from ⟨hj, hlt⟩)
      have HK := hQ hk
      have HLA := hQ hlA
      have HLB := hQ hlB
      clear hj hlt hk hlA hlB
      refine sq_ (ds := []) #[false, false, false, false, false, false, false, false, false, false, false, false] (fun w' => w'.cell? (ad.add j) = some (.int .i64 z)) J0.out.c (fun hHeld => ?_)
      refine pq_ 0 (some 84) ?_
      refine pq_ 1 (some 85) ?_
      refine pq_ 2 (some 86) ?_
      refine tq_ 3 (some 87) hHeld ?_
      refine pq_ 5 (some 89) ?_
      refine pq_ 6 (some 90) ?_
      refine pq_ 7 (some 91) ?_
      refine tq_ 8 (some 92) hHeld ?_
      refine oq_ 4 (some 88) (fun K hK => ?_)
      refine yh Tryz.func8 (by kernel_rfl) rfl #[.int .i64 z, .int .i64 16] (by rfl) rfl rfl (by (try simp only [List.map_toArray, List.map_cons, List.map_nil]); first | done | rfl) ?_
      refine (zK.calls z 16 (z % 16) _ (Go.Proofs.YtlalbohhopmpdaaGreat.LemWithinTop.within_eq z 16 (by omega) (by omega))).mono ?_
      rintro e w5 ⟨rfl, hd⟩
      refine ⟨_, rfl, ?_⟩
      have Jw5 := hQ (J0.out.below hd.below)
      clear hd
      refine hK.out _ _ Jw5.out.c (fun hHeld => ?_)
      clear hK K
      refine nq_ ?_
      refine oq_ 9 (some 93) (fun K hK => ?_)
      refine yh Tryz.func12 (by kernel_rfl) rfl #[.int .i64 z, .int .i64 16, .int .i64 60000] (by rfl) rfl rfl (by (try simp only [List.map_toArray, List.map_cons, List.map_nil]); first | done | rfl) ?_
      refine (yz.calls z 16 60000 (vB z) _ (Go.Proofs.YtlalbohhopmpdaaGreat.LemDigitTop.digit_eq z 16 60000 HWZ.out (by omega) (by omega) (by omega))).mono ?_
      rintro e w9 ⟨rfl, hd⟩
      refine ⟨_, rfl, ?_⟩
      have Jw9 := hQ (Jw5.out.below hd.below)
      clear hd
      refine hK.out _ _ Jw9.out.c (fun hHeld => ?_)
      clear hK K
      refine nq_ ?_
      have J9 := hQ Jw9.out
      refine pq_ 10 (some 15) ?_
      refine pq_ 11 (some 16) ?_
      refine xJ (by kernel_rfl) ?_
      have hv := JB z
      have hw1 : wrap64 (vB z + 1) = vB z + 1 := zu (by omega) (by omega)
      have hw2 : wrap64 (24 + z % 16) = 24 + z % 16 := zu (by omega) (by omega)
      have hu : IntKind.u16.wrap (vB z) = vB z := by show vB z % 65536 = vB z; omega
      have p0 : (0 ≤ z % 16) = True := eq_true (by omega)
      have p1 : (z % 16 < 16) = True := eq_true (by omega)
      obtain ⟨hc9, hf9⟩ := J9.out.l.cell ((z % 16).toNat) (by omega)
      clear hv hHeld
      go_wp2_with (fail)
      obtain ⟨g9, hs9, ht9⟩ := J9.out.t
      have T10 := hQ (ht9.far J9.out.l HB9.out ((z % 16).toNat) (.int .i64 (vB z + 1)))
      have Z10 := hQ (show jc b (kP (lA ++ [z]) lB) (w9.setCell ⟨b, (z % 16).toNat, none⟩ (.int .i64 (vB z + 1))) by
        have h := J9.out.l.set ((z % 16).toNat) (by omega) (vB z + 1)
        rw [zds] at h
        exact h)
      have E10 := hQ (J9.out.e.setCell HB9.out (.int .i64 (vB z + 1)) (p := ⟨b, (z % 16).toNat, none⟩))
      clear hc9 hf9
      generalize w9.setCell ⟨b, (z % 16).toNat, none⟩ (.int .i64 (vB z + 1)) = W10 at *
      have HS9 := hQ hs9
      clear ht9 hs9 J9 J0
      have hs : yV _ _ _ _ _ _ _ _ _ _ _ _ _ _ _ _ _ _ _ _ := bs3 (la := lA) (lb := lB) T10.out HS9.out (by have := HJ.out; have := HL.out; have := HK.out; omega) (by have := HJ.out; have := HL.out; have := HK.out; omega) (by have := HJ.out; have := HL.out; rw [HLA.out]; simp; omega) z HX.out.2.2.1
      simp only [yV, yu, zW] at hs
      refine hs.mono ?_
      clear hs
      rintro e v11 ⟨A11, q11, rfl, hr, hT, hc⟩
      have hE := zf (hc.below E10.out) (Nat.le_trans E10.out.size hc.size) (zy (Below.refl _ _) (.cells #[.int .i64 6, .int .i64 0, .slice none 0 0, .slice A11 0 q11, .int .i64 (24 + z % 16), .int .i64 0, .int .u16 (vB z), .int .u16 0, .int .u16 0, .int .i64 0, .int .i64 0, .bool false, .int .i64 0, .slice none 0 0] 41))
      have hbw : Below v11.heap.size v11 (v11.alloc (.cells #[.int .i64 6, .int .i64 0, .slice none 0 0, .slice A11 0 q11, .int .i64 (24 + z % 16), .int .i64 0, .int .u16 (vB z), .int .u16 0, .int .u16 0, .int .i64 0, .int .i64 0, .bool false, .int .i64 0, .slice none 0 0] 41)) := (Below.refl _ _).alloc (Nat.le_refl _) _
      have Z11 := hQ ((Z10.out.ch hc (by decide)).below hbw)
      have T11 := hQ (hT.below hbw)
      have E11 := hQ hE
      clear hr hT hc hE hbw
      have hw3 : wrap64 ((j : Int) + 1) = ((j + 1 : Nat) : Int) := by rw [zu (by omega) (by have := HJ.out; have := HL.out; omega)]; rfl
      clear hw1 hw2 hu p0 p1
      go_wp2_with (fail)
      have hw4 : Value.int .i64 (wrap64 ((j : Int) + 1)) = .int .i64 ((j + 1 : Nat) : Int) := by rw [hw3]
      go_roundg (la.length - (j + 1))
      case measure => have := HJ.out; omega
      case rel =>
        have ht : la.take (j + 1) = la.take j ++ [z] := by rw [List.take_add_one, HZL.out]; rfl
        have hZ := Z11.out
        have hS := HS9.out.put0 (xA (lA ++ [z]))
        rw [HLA.out, HLB.out, ← ht] at hZ hS
        have hT := T11.out
        have eN : 8 + 2 * k + 2 = 8 + 2 * (j + 1) := by rw [HK.out]; omega
        have eK : 2 + (k : Int) + 1 = 2 + ((j + 1 : Nat) : Int) := by rw [HK.out]; omega
        rw [eN, eK, HLA.out, ← ht] at hT
        exact ⟨j + 1, by have := HJ.out; omega, hw4, ⟨_, hS, hT⟩, ⟨hZ⟩, ⟨E11.out⟩⟩
    · have hd : decide ((j : Int) < (la.length : Int)) = false := decide_eq_false (by omega)
      have hjl : la.take j = la := List.take_of_length_le (by omega)
      obtain ⟨ga, hsa, hta⟩ := HT.out
      have hza := HZ.out
      rw [hjl] at hsa hza
      have T20 := hQ hta
      have S20 := hQ hsa
      have Z20 := hQ hza
      have E20 := hQ HE.out
      have HJA := hQ (show j = la.length by omega)
      clear HT HZ HE hjl hsa hta hza hj
      go_wp2_with (fail)
      rw [rounds_succ]
      go_wp2_with (fail)
      go_loopg [14] lb.length (fun g_ v14 wx => ∃ m : Nat, m + g_ = lb.length ∧ v14 = .int .i64 (m : Int) ∧ ze (∃ gg, St gg (xA la) (xA (lb.take m)) ∧ xz wx w3.heap.size (8 + 2 * (j + m)) ix gg tb gb dk 3 L (2 + ((j + m : Nat) : Int))) ∧ ze (jc b (kP la (lb.take m)) wx) ∧ ze (Below w3.heap.size w3 wx))
      case atStart => exact ⟨0, by omega, rfl, ⟨_, S20.out, T20.out⟩, ⟨Z20.out⟩, ⟨E20.out⟩⟩
      case round =>
        obtain ⟨m, hj, rfl, HT, HZ, HE⟩ := hrel
        clear T20 Z20 E20
        by_cases hlt : m < lb.length
        · have hd : decide ((m : Int) < (lb.length : Int)) = true := decide_eq_true (by omega)
          go_wp2_with (fail)
          obtain ⟨ad, eA, hcz⟩ := Kd.qH (Kd.zx HB.out (zf B3.out B3.out.size HE.out)) (m : Int) (by omega) (by omega)
          cases eA
          obtain ⟨z, hz⟩ : ∃ z, z = rd lb (m : Int) := ⟨_, rfl⟩
          rw [← hz, Int.toNat_natCast] at hcz
          have hzl : lb[m]? = some z := by rw [hz]; exact zaH lb m hlt
          have HZL := hQ hzl
          have HWZ := hQ (VA (WB.out z (List.mem_of_getElem? hzl)))
          obtain ⟨k, hk⟩ : ∃ k, k = j + m := ⟨_, rfl⟩
          obtain ⟨lA, hlA⟩ : ∃ lA, lA = la := ⟨_, rfl⟩
          obtain ⟨lB, hlB⟩ : ∃ lB : List Int, lB = lb.take m := ⟨_, rfl⟩
          have J0 := hQ (show JW w3.heap.size w3 ad m z b tb gb dk L ix k lA lB wr.drew from JW.below ⟨hcz, by rw [hk, hlA, hlB]; exact HT.out, by rw [hlA, hlB]; exact HZ.out, HE.out⟩ (zl (Below.refl _ _)))
          clear HT HZ HE hz hzl hd
          have q0 : ((m : Int) < (lb.length : Int)) = True := eq_true (by omega)
          have q1 : (0 ≤ (m : Int)) = True := eq_true (by omega)
          have HJ := hQ (show m + gk = lb.length ∧ m < lb.length from ⟨hj, hlt⟩)
          have HK := hQ hk
          have HLA := hQ hlA
          have HLB := hQ hlB
          clear hj hlt hk hlA hlB
          refine sq_ (ds := []) #[false, false, false, false, false, false, false, false, false, false, false, false] (fun w' => w'.cell? (ad.add m) = some (.int .i64 z)) J0.out.c (fun hHeld => ?_)
          refine pq_ 0 (some 84) ?_
          refine pq_ 1 (some 85) ?_
          refine pq_ 2 (some 86) ?_
          refine tq_ 3 (some 87) hHeld ?_
          refine pq_ 5 (some 89) ?_
          refine pq_ 6 (some 90) ?_
          refine pq_ 7 (some 91) ?_
          refine tq_ 8 (some 92) hHeld ?_
          refine oq_ 4 (some 88) (fun K hK => ?_)
          refine yh Tryz.func8 (by kernel_rfl) rfl #[.int .i64 z, .int .i64 16] (by rfl) rfl rfl (by (try simp only [List.map_toArray, List.map_cons, List.map_nil]); first | done | rfl) ?_
          refine (zK.calls z 16 (z % 16) _ (Go.Proofs.YtlalbohhopmpdaaGreat.LemWithinTop.within_eq z 16 (by omega) (by omega))).mono ?_
          rintro e w5 ⟨rfl, hd⟩
          refine ⟨_, rfl, ?_⟩
          have Jw5 := hQ (J0.out.below hd.below)
          clear hd
          refine hK.out _ _ Jw5.out.c (fun hHeld => ?_)
          clear hK K
          refine nq_ ?_
          refine oq_ 9 (some 93) (fun K hK => ?_)
          refine yh Tryz.func12 (by kernel_rfl) rfl #[.int .i64 z, .int .i64 16, .int .i64 60000] (by rfl) rfl rfl (by (try simp only [List.map_toArray, List.map_cons, List.map_nil]); first | done | rfl) ?_
          refine (yz.calls z 16 60000 (vB z) _ (Go.Proofs.YtlalbohhopmpdaaGreat.LemDigitTop.digit_eq z 16 60000 HWZ.out (by omega) (by omega) (by omega))).mono ?_
          rintro e w9 ⟨rfl, hd⟩
          refine ⟨_, rfl, ?_⟩
          have Jw9 := hQ (Jw5.out.below hd.below)
          clear hd
          refine hK.out _ _ Jw9.out.c (fun hHeld => ?_)
          clear hK K
          refine nq_ ?_
          have J9 := hQ Jw9.out
          refine pq_ 10 (some 15) ?_
          refine pq_ 11 (some 16) ?_
          refine xJ (by kernel_rfl) ?_
          have hv := JB z
          have hw1 : wrap64 (vB z + 1) = vB z + 1 := zu (by omega) (by omega)
          have hw2 : wrap64 (24 + z % 16) = 24 + z % 16 := zu (by omega) (by omega)
          have hu : IntKind.u16.wrap (vB z) = vB z := by show vB z % 65536 = vB z; omega
          have p0 : (0 ≤ z % 16) = True := eq_true (by omega)
          have p1 : (z % 16 < 16) = True := eq_true (by omega)
          obtain ⟨hc9, hf9⟩ := J9.out.l.cell (16 + (z % 16).toNat) (by omega)
          clear hv hHeld
          go_wp2_with (fail)
          obtain ⟨g9, hs9, ht9⟩ := J9.out.t
          have T10 := hQ (ht9.far J9.out.l HB9.out (16 + (z % 16).toNat) (.int .i64 (vB z + 1)))
          have Z10 := hQ (show jc b (kP lA (lB ++ [z])) (w9.setCell ⟨b, 16 + (z % 16).toNat, none⟩ (.int .i64 (vB z + 1))) by
            have h := J9.out.l.set (16 + (z % 16).toNat) (by omega) (vB z + 1)
            rw [zdo] at h
            exact h)
          have E10 := hQ (J9.out.e.setCell HB9.out (.int .i64 (vB z + 1)) (p := ⟨b, 16 + (z % 16).toNat, none⟩))
          clear hc9 hf9
          generalize w9.setCell ⟨b, 16 + (z % 16).toNat, none⟩ (.int .i64 (vB z + 1)) = W10 at *
          have HS9 := hQ hs9
          clear ht9 hs9 J9 J0
          have hs : yV _ _ _ _ _ _ _ _ _ _ _ _ _ _ _ _ _ _ _ _ := bs4 (la := lA) (lb := lB) T10.out HS9.out (by have := HJ.out; have := HL.out; have := HK.out; have := HJA.out; omega) (by have := HJ.out; have := HL.out; have := HK.out; have := HJA.out; omega) (by have := HJ.out; have := HL.out; rw [HLB.out]; simp; omega) z HX.out.2.2.1
          simp only [yV, yu, zW] at hs
          refine hs.mono ?_
          clear hs
          rintro e v11 ⟨A11, q11, rfl, hr, hT, hc⟩
          have hE := zf (hc.below E10.out) (Nat.le_trans E10.out.size hc.size) (zy (Below.refl _ _) (.cells #[.int .i64 6, .int .i64 0, .slice none 0 0, .slice A11 0 q11, .int .i64 (24 + z % 16), .int .i64 0, .int .u16 (vB z), .int .u16 0, .int .u16 0, .int .i64 0, .int .i64 0, .bool false, .int .i64 0, .slice none 0 0] 41))
          have hbw : Below v11.heap.size v11 (v11.alloc (.cells #[.int .i64 6, .int .i64 0, .slice none 0 0, .slice A11 0 q11, .int .i64 (24 + z % 16), .int .i64 0, .int .u16 (vB z), .int .u16 0, .int .u16 0, .int .i64 0, .int .i64 0, .bool false, .int .i64 0, .slice none 0 0] 41)) := (Below.refl _ _).alloc (Nat.le_refl _) _
          have Z11 := hQ ((Z10.out.ch hc (by decide)).below hbw)
          have T11 := hQ (hT.below hbw)
          have E11 := hQ hE
          clear hr hT hc hE hbw
          have hw3 : wrap64 ((m : Int) + 1) = ((m + 1 : Nat) : Int) := by rw [zu (by omega) (by have := HJ.out; have := HL.out; omega)]; rfl
          clear hw1 hw2 hu p0 p1
          go_wp2_with (fail)
          have hw4 : Value.int .i64 (wrap64 ((m : Int) + 1)) = .int .i64 ((m + 1 : Nat) : Int) := by rw [hw3]
          go_roundg (lb.length - (m + 1))
          case measure => have := HJ.out; omega
          case rel =>
            have ht : lb.take (m + 1) = lb.take m ++ [z] := by rw [List.take_add_one, HZL.out]; rfl
            have hZ := Z11.out
            have hS := HS9.out.put1 (xA (lB ++ [z]))
            rw [HLA.out, HLB.out, ← ht] at hZ hS
            have hT := T11.out
            have eN : 8 + 2 * k + 2 = 8 + 2 * (j + m + 1) := by rw [HK.out]; omega
            have eK : 2 + (k : Int) + 1 = 2 + ((j + m + 1 : Nat) : Int) := by rw [HK.out]; omega
            rw [eN, eK, HLB.out, ← ht] at hT
            exact ⟨m + 1, by have := HJ.out; omega, hw4, ⟨_, hS, by rw [Nat.add_assoc] at hT; exact hT⟩, ⟨hZ⟩, ⟨E11.out⟩⟩
        · have hd : decide ((m : Int) < (lb.length : Int)) = false := decide_eq_false (by omega)
          have hjl : lb.take m = lb := List.take_of_length_le (by omega)
          obtain ⟨gb2, hsa, hta⟩ := HT.out
          have hza := HZ.out
          rw [hjl] at hsa hza
          obtain ⟨n, hn⟩ : ∃ n, n = j + m := ⟨_, rfl⟩
          rw [← hn] at hta
          have T30 := hQ hta
          have S30 := hQ hsa
          have Z30 := hQ hza
          have E30 := hQ HE.out
          have HN := hQ (show n ≤ 24 by have := HJA.out; have := HL.out; omega)
          clear HT HZ HE hjl hsa hta hza hj hn
          go_wp2_with (fail)
          rw [rounds_succ]
          cases f
          · skip
            go_wp2_with (fail)
            refine (hOrd2 _).mono ?_
            rintro e o31 ⟨rfl, hbw⟩
            have T31 := hQ (T30.out.below hbw)
            have E31 := hQ (zf E30.out E30.out.size hbw)
            have Z31 := hQ (Z30.out.below hbw)
            clear hbw
            go_wp2_with (fail)
            have hs : yV _ _ _ _ _ _ _ _ _ _ _ _ _ _ _ _ _ _ _ _ := bs5 (la := la) (lb := lb) T31.out S30.out (by have := HN.out; omega) (by have := HN.out; omega) (by have := HL.out; omega)
            simp only [yV, yu, zW] at hs
            refine hs.mono ?_
            clear hs
            rintro e v32 ⟨A32, q32, rfl, hr, hT, hc⟩
            have hE := zf (hc.below E31.out) (Nat.le_trans E31.out.size hc.size) (zy (Below.refl _ _) (.cells #[.int .i64 6, .int .i64 0, .slice none 0 0, .slice A32 0 q32, .int .i64 100, .int .i64 0, .int .u16 2, .int .u16 0, .int .u16 0, .int .i64 0, .int .i64 0, .bool false, .int .i64 0, .slice none 0 0] 41))
            have hbw : Below v32.heap.size v32 (v32.alloc (.cells #[.int .i64 6, .int .i64 0, .slice none 0 0, .slice A32 0 q32, .int .i64 100, .int .i64 0, .int .u16 2, .int .u16 0, .int .u16 0, .int .i64 0, .int .i64 0, .bool false, .int .i64 0, .slice none 0 0] 41)) := (Below.refl _ _).alloc (Nat.le_refl _) _
            have Z32 := hQ ((Z31.out.ch hc (by decide)).below hbw)
            have T32 := hQ (hT.below hbw)
            have E32 := hQ hE
            have Zp := hQ (zi v32 (.cells #[.int .i64 6, .int .i64 0, .slice none 0 0, .slice A32 0 q32, .int .i64 100, .int .i64 0, .int .u16 2, .int .u16 0, .int .u16 0, .int .i64 0, .int .i64 0, .bool false, .int .i64 0, .slice none 0 0] 41))
            clear hr hT hc hE hbw
            have D32 := hQ (S30.out.com0)
            have HW1 := hQ (show (xA la).length ≤ 12 by have := (yY la).2.1; have := HL.out; omega)
            have HW2 := hQ (show (xA lb).length ≤ 12 by have := (yY lb).2.1; have := HL.out; omega)
            go_wp2_with (fail)
            refine (hOrd2 _).mono ?_
            rintro e o33 ⟨rfl, hbw⟩
            have T33 := hQ (T32.out.below hbw)
            have E33 := hQ (zf E32.out E32.out.size hbw)
            have Z33 := hQ (Z32.out.below hbw)
            replace Zp := hQ (zb Zp.out hbw)
            clear hbw
            go_wp2_with (fail)
            have hs : yV _ _ _ _ _ _ _ _ _ _ _ _ _ _ _ _ _ _ _ _ := bs7 (c := 1) (la := la) (lb := lb) (by omega) T33.out D32.out (by have := HN.out; omega) (by have := HN.out; have := HW1.out; omega) (by have := HL.out; omega) (by have := HL.out; omega)
            simp only [yV, yu, zW] at hs
            refine hs.mono ?_
            clear hs
            rintro e v34 ⟨A34, q34, rfl, hr, hT, hc⟩
            have hE := zf (hc.below E33.out) (Nat.le_trans E33.out.size hc.size) (zy (Below.refl _ _) (.cells #[.int .i64 6, .int .i64 0, .slice none 0 0, .slice A34 0 q34, .int .i64 100, .int .i64 0, .int .u16 2, .int .u16 0, .int .u16 0, .int .i64 0, .int .i64 0, .bool false, .int .i64 0, .slice none 0 0] 41))
            have hbw : Below v34.heap.size v34 (v34.alloc (.cells #[.int .i64 6, .int .i64 0, .slice none 0 0, .slice A34 0 q34, .int .i64 100, .int .i64 0, .int .u16 2, .int .u16 0, .int .u16 0, .int .i64 0, .int .i64 0, .bool false, .int .i64 0, .slice none 0 0] 41)) := (Below.refl _ _).alloc (Nat.le_refl _) _
            have Z34 := hQ ((Z33.out.ch hc (by decide)).below hbw)
            replace Zp := hQ (zb (hc.cell Zp.out (by decide)) hbw)
            have T34 := hQ (hT.below hbw)
            have E34 := hQ hE
            have Zq := hQ (zi v34 (.cells #[.int .i64 6, .int .i64 0, .slice none 0 0, .slice A34 0 q34, .int .i64 100, .int .i64 0, .int .u16 2, .int .u16 0, .int .u16 0, .int .i64 0, .int .i64 0, .bool false, .int .i64 0, .slice none 0 0] 41))
            clear hr hT hc hE hbw
            have D34 := hQ (Sd.com (c := 1) (.inr rfl) D32.out)
            have hbr := zdy
            go_wp2_with (fail)
            have hs : yV _ _ _ _ _ _ _ _ _ _ _ _ _ _ _ _ _ _ _ _ := bs8 (la := la) (lb := lb) T34.out D34.out (by have := HN.out; omega) (by have := HN.out; have := HW1.out; have := HW2.out; omega)
            simp only [yV, yu, zW, jV] at hs
            refine hs.mono ?_
            clear hs
            rintro e v35 ⟨A35, q35, rfl, hr, hT, hc⟩
            have hE := zf (hc.below E34.out) (Nat.le_trans E34.out.size hc.size) (zy (Below.refl _ _) (.cells #[.int .i64 3, .int .i64 0, .slice none 0 0, .slice A35 16 q35, .int .i64 0, .int .i64 0, .int .u16 0, .int .u16 0, .int .u16 0, .int .i64 0, .int .i64 0, .bool false, .int .i64 0, .slice none 0 0] 41))
            have hbw : Below v35.heap.size v35 (v35.alloc (.cells #[.int .i64 3, .int .i64 0, .slice none 0 0, .slice A35 16 q35, .int .i64 0, .int .i64 0, .int .u16 0, .int .u16 0, .int .u16 0, .int .i64 0, .int .i64 0, .bool false, .int .i64 0, .slice none 0 0] 41)) := (Below.refl _ _).alloc (Nat.le_refl _) _
            have Z35 := hQ ((Z34.out.ch hc (by decide)).below hbw)
            replace Zp := hQ (zb (hc.cell Zp.out (by decide)) hbw)
            replace Zq := hQ (zb (hc.cell Zq.out (by decide)) hbw)
            have T35 := hQ (hT.below hbw)
            have E35 := hQ hE
            have Zs := hQ (zi v35 (.cells #[.int .i64 3, .int .i64 0, .slice none 0 0, .slice A35 16 q35, .int .i64 0, .int .i64 0, .int .u16 0, .int .u16 0, .int .u16 0, .int .i64 0, .int .i64 0, .bool false, .int .i64 0, .slice none 0 0] 41))
            have Rs := hQ (Kd.zz hr hbw)
            clear hr hT hc hE hbw
            obtain ⟨ad0, eA0, _⟩ := Kd.qH (Kd.zB Rs.out).2.2 0 (by decide) (by rw [jV]; decide)
            subst eA0
            have hLa : Calls Tryz.prog 13 #[.pointer (some ⟨gb, 0, none⟩)] (v35.alloc (.cells #[.int .i64 3, .int .i64 0, .slice none 0 0, .slice (some ad0) 16 q35, .int .i64 0, .int .i64 0, .int .u16 0, .int .u16 0, .int .u16 0, .int .i64 0, .int .i64 0, .bool false, .int .i64 0, .slice none 0 0] 41)) fun e w' => e = .returned (.int .u64 2) ∧ Below (v35.alloc (.cells #[.int .i64 3, .int .i64 0, .slice none 0 0, .slice (some ad0) 16 q35, .int .i64 0, .int .i64 0, .int .u16 0, .int .u16 0, .int .u16 0, .int .i64 0, .int .i64 0, .bool false, .int .i64 0, .slice none 0 0] 41)).heap.size (v35.alloc (.cells #[.int .i64 3, .int .i64 0, .slice none 0 0, .slice (some ad0) 16 q35, .int .i64 0, .int .i64 0, .int .u16 0, .int .u16 0, .int .u16 0, .int .i64 0, .int .i64 0, .bool false, .int .i64 0, .slice none 0 0] 41)) w' := by
              refine (XL _ w3.heap.size _ ix _ gb dk 3 L none_ none_ T35.out.gt).mono ?_
              rintro e w' ⟨rfl, hb⟩
              exact ⟨congrArg (fun y => Ending.returned (Value.int .u64 y)) D34.out.last, hb⟩
            have ht0 : (v35.alloc (.cells #[.int .i64 3, .int .i64 0, .slice none 0 0, .slice (some ad0) 16 q35, .int .i64 0, .int .i64 0, .int .u16 0, .int .u16 0, .int .u16 0, .int .i64 0, .int .i64 0, .bool false, .int .i64 0, .slice none 0 0] 41)).cell? ⟨tb, 0, none⟩ = some (.pointer (some ⟨gb, 0, none⟩)) := za T35.out.blk 0
            obtain ⟨zp0, zp1, zp2, zp3, zp4, zp5, zp6, zp7, zp8, zp9, zp10, zp11, zp12, zp13⟩ := yK Zp.out
            obtain ⟨zq0, zq1, zq2, zq3, zq4, zq5, zq6, zq7, zq8, zq9, zq10, zq11, zq12, zq13⟩ := yK Zq.out
            clear zp0 zp2 zp3 zp4 zp5 zp6 zp7 zp8 zp9 zp10 zp11 zp12 zp13 zq0 zq2 zq3 zq4 zq5 zq6 zq7 zq8 zq9 zq10 zq11 zq12 zq13
            go_wp2_with (first | (go_at_call 13; refine hLa.mono ?_; rintro e w36 ⟨rfl, hb⟩; have F36 := hQ (show zbX w3 b la lb la lb v35.heap.size (some ad0) q35 w36 from ⟨Z35.out.below hb, (za (zb Zs.out hb) 3 : w36.cell? ⟨v35.heap.size, 3, none⟩ = _), Kd.zx (Kd.zB Rs.out).2.2 hb, zf E35.out E35.out.size hb⟩); have y3 : w36.cell? ⟨v35.heap.size, 3, none⟩ = some (.slice (some ad0) 16 q35) := F36.out.s; clear hb))
            clear hLa ht0 zp1 zq1 y3 hbr
            go_loopg [27] 16 (fun g_ v27 wx => ∃ i : Nat, i + g_ = 16 ∧ v27 = .int .i64 (i : Int) ∧ ze (zbX w3 b la lb la lb v35.heap.size (some ad0) q35 wx))
            case atStart => exact ⟨0, rfl, rfl, ⟨F36.out⟩⟩
            case round =>
              obtain ⟨i, hi, rfl, HF⟩ := hrel
              clear F36
              by_cases hlt : i < 16
              · have hd : decide ((i : Int) < 16) = true := decide_eq_true (by omega)
                obtain ⟨ad, eA, hcw⟩ := Kd.qH HF.out.c (i : Int) (by omega) (by omega)
                have hca := (HF.out.l.cell i (by omega)).1
                have hcb := (HF.out.l.cell (16 + i) (by omega)).1
                have y3 := HF.out.s
                cases eA
                rw [Jn la lb i hlt, Int.toNat_natCast] at hcw
                rw [VE la lb i hlt] at hca
                rw [Vq la lb i] at hcb
                have q0 : ((i : Int) < 16) = True := eq_true (by omega)
                have q1 : (0 ≤ (i : Int)) = True := eq_true (by omega)
                have hw3 : wrap64 ((i : Int) + 1) = ((i + 1 : Nat) : Int) := by rw [zu (by omega) (by omega)]; rfl
                have hw4 : Value.int .i64 (wrap64 ((i : Int) + 1)) = .int .i64 ((i + 1 : Nat) : Int) := by rw [hw3]
                have b1 := (yY la).2.2.2 (i : Int)
                have b2 := (yY lb).2.2.2 (i : Int)
                have bw := YS la lb (i : Int)
                have hwx : wrap64 (qM la lb (i : Int)) = qM la lb (i : Int) := zu (by omega) (by omega)
                have HI := hQ (show i + gk = 16 ∧ i < 16 from ⟨hi, hlt⟩)
                by_cases h0 : yQ lb (i : Int) = 0
                · have hd0 : decide (yQ lb (i : Int) = 0) = true := dT h0
                  have hw5 : wrap64 (yQ la (i : Int) - 1) = yQ la (i : Int) - 1 := zu (by omega) (by omega)
                  have hm : qM la lb (i : Int) = max (yQ la (i : Int) - 1) 0 := by unfold qM; rw [if_pos h0]
                  have HM := hQ hm
                  clear b1 b2 bw hi hm
                  go_wp2_with (first | ((with_reducible refine zN (N := 197) rfl ?_); go_must (refine Zr rfl (.tmp 196) (.const (.int .i64 0)) _ rfl .i64 (wrap64 (yQ la (i : Int) - 1)) 0 (qM la lb (i : Int)) rfl rfl (by rw [hw5]; exact HM.out) ?_)))
                  go_roundg (16 - (i + 1))
                  case measure => have := HI.out; omega
                  case rel => exact ⟨i + 1, by have := HI.out; omega, (by first | rfl | exact hw4), ⟨HF.out⟩⟩
                · have hd0 : decide (yQ lb (i : Int) = 0) = false := dF h0
                  have hw5 : wrap64 (yQ lb (i : Int) - 1) = yQ lb (i : Int) - 1 := zu (by omega) (by omega)
                  have hm : qM la lb (i : Int) = max (yQ lb (i : Int) - 1) 0 := by unfold qM; rw [if_neg h0]
                  have HM := hQ hm
                  clear b1 b2 bw hi hm
                  go_wp2_with (first | ((with_reducible refine zN (N := 197) rfl ?_); go_must (refine Zr rfl (.tmp 196) (.const (.int .i64 0)) _ rfl .i64 (wrap64 (yQ lb (i : Int) - 1)) 0 (qM la lb (i : Int)) rfl rfl (by rw [hw5]; exact HM.out) ?_)))
                  go_roundg (16 - (i + 1))
                  case measure => have := HI.out; omega
                  case rel => exact ⟨i + 1, by have := HI.out; omega, (by first | rfl | exact hw4), ⟨HF.out⟩⟩
              · have hd : decide ((i : Int) < 16) = false := decide_eq_false (by omega)
                go_wp2_with (fail)
                exact bodyPost_ret (v := .bool true) (by simp [results, Tryz.results4, go_sem]) rfl ⟨rfl, zf B3.out B3.out.size HF.out.e⟩
          · skip
            go_wp2_with (fail)
            refine (hOrd2 _).mono ?_
            rintro e o31 ⟨rfl, hbw⟩
            have T31 := hQ (T30.out.below hbw)
            have E31 := hQ (zf E30.out E30.out.size hbw)
            have Z31 := hQ (Z30.out.below hbw)
            clear hbw
            go_wp2_with (fail)
            have hs : yV _ _ _ _ _ _ _ _ _ _ _ _ _ _ _ _ _ _ _ _ := bs6 (la := la) (lb := lb) T31.out S30.out (by have := HN.out; omega) (by have := HN.out; omega) (by have := HL.out; omega)
            simp only [yV, yu, zW] at hs
            refine hs.mono ?_
            clear hs
            rintro e v32 ⟨A32, q32, rfl, hr, hT, hc⟩
            have hE := zf (hc.below E31.out) (Nat.le_trans E31.out.size hc.size) (zy (Below.refl _ _) (.cells #[.int .i64 6, .int .i64 0, .slice none 0 0, .slice A32 0 q32, .int .i64 100, .int .i64 0, .int .u16 2, .int .u16 0, .int .u16 0, .int .i64 0, .int .i64 0, .bool false, .int .i64 0, .slice none 0 0] 41))
            have hbw : Below v32.heap.size v32 (v32.alloc (.cells #[.int .i64 6, .int .i64 0, .slice none 0 0, .slice A32 0 q32, .int .i64 100, .int .i64 0, .int .u16 2, .int .u16 0, .int .u16 0, .int .i64 0, .int .i64 0, .bool false, .int .i64 0, .slice none 0 0] 41)) := (Below.refl _ _).alloc (Nat.le_refl _) _
            have Z32 := hQ ((Z31.out.ch hc (by decide)).below hbw)
            have T32 := hQ (hT.below hbw)
            have E32 := hQ hE
            have Zp := hQ (zi v32 (.cells #[.int .i64 6, .int .i64 0, .slice none 0 0, .slice A32 0 q32, .int .i64 100, .int .i64 0, .int .u16 2, .int .u16 0, .int .u16 0, .int .i64 0, .int .i64 0, .bool false, .int .i64 0, .slice none 0 0] 41))
            clear hr hT hc hE hbw
            have D32 := hQ (S30.out.com1)
            have HW1 := hQ (show (xA lb).length ≤ 12 by have := (yY lb).2.1; have := HL.out; omega)
            have HW2 := hQ (show (xA la).length ≤ 12 by have := (yY la).2.1; have := HL.out; omega)
            go_wp2_with (fail)
            refine (hOrd2 _).mono ?_
            rintro e o33 ⟨rfl, hbw⟩
            have T33 := hQ (T32.out.below hbw)
            have E33 := hQ (zf E32.out E32.out.size hbw)
            have Z33 := hQ (Z32.out.below hbw)
            replace Zp := hQ (zb Zp.out hbw)
            clear hbw
            go_wp2_with (fail)
            have hs : yV _ _ _ _ _ _ _ _ _ _ _ _ _ _ _ _ _ _ _ _ := bs7 (c := 0) (la := lb) (lb := la) (by omega) T33.out D32.out (by have := HN.out; omega) (by have := HN.out; have := HW1.out; omega) (by have := HL.out; omega) (by have := HL.out; omega)
            simp only [yV, yu, zW] at hs
            refine hs.mono ?_
            clear hs
            rintro e v34 ⟨A34, q34, rfl, hr, hT, hc⟩
            have hE := zf (hc.below E33.out) (Nat.le_trans E33.out.size hc.size) (zy (Below.refl _ _) (.cells #[.int .i64 6, .int .i64 0, .slice none 0 0, .slice A34 0 q34, .int .i64 100, .int .i64 0, .int .u16 2, .int .u16 0, .int .u16 0, .int .i64 0, .int .i64 0, .bool false, .int .i64 0, .slice none 0 0] 41))
            have hbw : Below v34.heap.size v34 (v34.alloc (.cells #[.int .i64 6, .int .i64 0, .slice none 0 0, .slice A34 0 q34, .int .i64 100, .int .i64 0, .int .u16 2, .int .u16 0, .int .u16 0, .int .i64 0, .int .i64 0, .bool false, .int .i64 0, .slice none 0 0] 41)) := (Below.refl _ _).alloc (Nat.le_refl _) _
            have Z34 := hQ ((Z33.out.ch hc (by decide)).below hbw)
            replace Zp := hQ (zb (hc.cell Zp.out (by decide)) hbw)
            have T34 := hQ (hT.below hbw)
            have E34 := hQ hE
            have Zq := hQ (zi v34 (.cells #[.int .i64 6, .int .i64 0, .slice none 0 0, .slice A34 0 q34, .int .i64 100, .int .i64 0, .int .u16 2, .int .u16 0, .int .u16 0, .int .i64 0, .int .i64 0, .bool false, .int .i64 0, .slice none 0 0] 41))
            clear hr hT hc hE hbw
            have D34 := hQ (Sd.com (c := 0) (.inl rfl) D32.out)
            have hbr := zdy
            go_wp2_with (fail)
            have hs : yV _ _ _ _ _ _ _ _ _ _ _ _ _ _ _ _ _ _ _ _ := bs8 (la := lb) (lb := la) T34.out D34.out (by have := HN.out; omega) (by have := HN.out; have := HW1.out; have := HW2.out; omega)
            simp only [yV, yu, zW, jV] at hs
            refine hs.mono ?_
            clear hs
            rintro e v35 ⟨A35, q35, rfl, hr, hT, hc⟩
            have hE := zf (hc.below E34.out) (Nat.le_trans E34.out.size hc.size) (zy (Below.refl _ _) (.cells #[.int .i64 3, .int .i64 0, .slice none 0 0, .slice A35 16 q35, .int .i64 0, .int .i64 0, .int .u16 0, .int .u16 0, .int .u16 0, .int .i64 0, .int .i64 0, .bool false, .int .i64 0, .slice none 0 0] 41))
            have hbw : Below v35.heap.size v35 (v35.alloc (.cells #[.int .i64 3, .int .i64 0, .slice none 0 0, .slice A35 16 q35, .int .i64 0, .int .i64 0, .int .u16 0, .int .u16 0, .int .u16 0, .int .i64 0, .int .i64 0, .bool false, .int .i64 0, .slice none 0 0] 41)) := (Below.refl _ _).alloc (Nat.le_refl _) _
            have Z35 := hQ ((Z34.out.ch hc (by decide)).below hbw)
            replace Zp := hQ (zb (hc.cell Zp.out (by decide)) hbw)
            replace Zq := hQ (zb (hc.cell Zq.out (by decide)) hbw)
            have T35 := hQ (hT.below hbw)
            have E35 := hQ hE
            have Zs := hQ (zi v35 (.cells #[.int .i64 3, .int .i64 0, .slice none 0 0, .slice A35 16 q35, .int .i64 0, .int .i64 0, .int .u16 0, .int .u16 0, .int .u16 0, .int .i64 0, .int .i64 0, .bool false, .int .i64 0, .slice none 0 0] 41))
            have Rs := hQ (Kd.zz hr hbw)
            clear hr hT hc hE hbw
            obtain ⟨ad0, eA0, _⟩ := Kd.qH (Kd.zB Rs.out).2.2 0 (by decide) (by rw [jV]; decide)
            subst eA0
            have hLa : Calls Tryz.prog 13 #[.pointer (some ⟨gb, 0, none⟩)] (v35.alloc (.cells #[.int .i64 3, .int .i64 0, .slice none 0 0, .slice (some ad0) 16 q35, .int .i64 0, .int .i64 0, .int .u16 0, .int .u16 0, .int .u16 0, .int .i64 0, .int .i64 0, .bool false, .int .i64 0, .slice none 0 0] 41)) fun e w' => e = .returned (.int .u64 2) ∧ Below (v35.alloc (.cells #[.int .i64 3, .int .i64 0, .slice none 0 0, .slice (some ad0) 16 q35, .int .i64 0, .int .i64 0, .int .u16 0, .int .u16 0, .int .u16 0, .int .i64 0, .int .i64 0, .bool false, .int .i64 0, .slice none 0 0] 41)).heap.size (v35.alloc (.cells #[.int .i64 3, .int .i64 0, .slice none 0 0, .slice (some ad0) 16 q35, .int .i64 0, .int .i64 0, .int .u16 0, .int .u16 0, .int .u16 0, .int .i64 0, .int .i64 0, .bool false, .int .i64 0, .slice none 0 0] 41)) w' := by
              refine (XL _ w3.heap.size _ ix _ gb dk 3 L none_ none_ T35.out.gt).mono ?_
              rintro e w' ⟨rfl, hb⟩
              exact ⟨congrArg (fun y => Ending.returned (Value.int .u64 y)) D34.out.last, hb⟩
            have ht0 : (v35.alloc (.cells #[.int .i64 3, .int .i64 0, .slice none 0 0, .slice (some ad0) 16 q35, .int .i64 0, .int .i64 0, .int .u16 0, .int .u16 0, .int .u16 0, .int .i64 0, .int .i64 0, .bool false, .int .i64 0, .slice none 0 0] 41)).cell? ⟨tb, 0, none⟩ = some (.pointer (some ⟨gb, 0, none⟩)) := za T35.out.blk 0
            obtain ⟨zp0, zp1, zp2, zp3, zp4, zp5, zp6, zp7, zp8, zp9, zp10, zp11, zp12, zp13⟩ := yK Zp.out
            obtain ⟨zq0, zq1, zq2, zq3, zq4, zq5, zq6, zq7, zq8, zq9, zq10, zq11, zq12, zq13⟩ := yK Zq.out
            clear zp0 zp2 zp3 zp4 zp5 zp6 zp7 zp8 zp9 zp10 zp11 zp12 zp13 zq0 zq2 zq3 zq4 zq5 zq6 zq7 zq8 zq9 zq10 zq11 zq12 zq13
            go_wp2_with (first | (go_at_call 13; refine hLa.mono ?_; rintro e w36 ⟨rfl, hb⟩; have F36 := hQ (show zbX w3 b la lb lb la v35.heap.size (some ad0) q35 w36 from ⟨Z35.out.below hb, (za (zb Zs.out hb) 3 : w36.cell? ⟨v35.heap.size, 3, none⟩ = _), Kd.zx (Kd.zB Rs.out).2.2 hb, zf E35.out E35.out.size hb⟩); have y3 : w36.cell? ⟨v35.heap.size, 3, none⟩ = some (.slice (some ad0) 16 q35) := F36.out.s; clear hb))
            clear hLa ht0 zp1 zq1 y3 hbr
            go_loopg [27] 16 (fun g_ v27 wx => ∃ i : Nat, i + g_ = 16 ∧ v27 = .int .i64 (i : Int) ∧ ze (zbX w3 b la lb lb la v35.heap.size (some ad0) q35 wx))
            case atStart => exact ⟨0, rfl, rfl, ⟨F36.out⟩⟩
            case round =>
              obtain ⟨i, hi, rfl, HF⟩ := hrel
              clear F36
              by_cases hlt : i < 16
              · have hd : decide ((i : Int) < 16) = true := decide_eq_true (by omega)
                obtain ⟨ad, eA, hcw⟩ := Kd.qH HF.out.c (i : Int) (by omega) (by omega)
                have hca := (HF.out.l.cell i (by omega)).1
                have hcb := (HF.out.l.cell (16 + i) (by omega)).1
                have y3 := HF.out.s
                cases eA
                rw [Jn lb la i hlt, Int.toNat_natCast] at hcw
                rw [VE la lb i hlt] at hca
                rw [Vq la lb i] at hcb
                have q0 : ((i : Int) < 16) = True := eq_true (by omega)
                have q1 : (0 ≤ (i : Int)) = True := eq_true (by omega)
                have hw3 : wrap64 ((i : Int) + 1) = ((i + 1 : Nat) : Int) := by rw [zu (by omega) (by omega)]; rfl
                have hw4 : Value.int .i64 (wrap64 ((i : Int) + 1)) = .int .i64 ((i + 1 : Nat) : Int) := by rw [hw3]
                have b1 := (yY lb).2.2.2 (i : Int)
                have b2 := (yY la).2.2.2 (i : Int)
                have bw := YS lb la (i : Int)
                have hwx : wrap64 (qM lb la (i : Int)) = qM lb la (i : Int) := zu (by omega) (by omega)
                have HI := hQ (show i + gk = 16 ∧ i < 16 from ⟨hi, hlt⟩)
                by_cases h0 : yQ la (i : Int) = 0
                · have hd0 : decide (yQ la (i : Int) = 0) = true := dT h0
                  have hw5 : wrap64 (yQ lb (i : Int) - 1) = yQ lb (i : Int) - 1 := zu (by omega) (by omega)
                  have hm : qM lb la (i : Int) = max (yQ lb (i : Int) - 1) 0 := by unfold qM; rw [if_pos h0]
                  have HM := hQ hm
                  clear b1 b2 bw hi hm
                  go_wp2_with (first | ((with_reducible refine zN (N := 197) rfl ?_); go_must (refine Zr rfl (.tmp 196) (.const (.int .i64 0)) _ rfl .i64 (wrap64 (yQ lb (i : Int) - 1)) 0 (qM lb la (i : Int)) rfl rfl (by rw [hw5]; exact HM.out) ?_)))
                  go_roundg (16 - (i + 1))
                  case measure => have := HI.out; omega
                  case rel => exact ⟨i + 1, by have := HI.out; omega, (by first | rfl | exact hw4), ⟨HF.out⟩⟩
                · have hd0 : decide (yQ la (i : Int) = 0) = false := dF h0
                  have hw5 : wrap64 (yQ la (i : Int) - 1) = yQ la (i : Int) - 1 := zu (by omega) (by omega)
                  have hm : qM lb la (i : Int) = max (yQ la (i : Int) - 1) 0 := by unfold qM; rw [if_neg h0]
                  have HM := hQ hm
                  clear b1 b2 bw hi hm
                  go_wp2_with (first | ((with_reducible refine zN (N := 197) rfl ?_); go_must (refine Zr rfl (.tmp 196) (.const (.int .i64 0)) _ rfl .i64 (wrap64 (yQ la (i : Int) - 1)) 0 (qM lb la (i : Int)) rfl rfl (by rw [hw5]; exact HM.out) ?_)))
                  go_roundg (16 - (i + 1))
                  case measure => have := HI.out; omega
                  case rel => exact ⟨i + 1, by have := HI.out; omega, (by first | rfl | exact hw4), ⟨HF.out⟩⟩
              · have hd : decide ((i : Int) < 16) = false := decide_eq_false (by omega)
                go_wp2_with (fail)
                exact bodyPost_ret (v := .bool true) (by simp [results, Tryz.results4, go_sem]) rfl ⟨rfl, zf B3.out B3.out.size HF.out.e⟩
theorem blind_true (w : World) (A0 : Option Addr) (c0 : Nat) (la : List Int) (A1 : Option Addr) (c1 : Nat) (lb : List Int) (f : Bool) (hA : Kd.C (Kd.int .i64) w A0 la.length la) (hB : Kd.C (Kd.int .i64) w A1 lb.length lb) (wa : ∀ x ∈ la, (Lit.int .i64 x).wf = true) (wb : ∀ x ∈ lb, (Lit.int .i64 x).wf = true) (k0 : la.length ≤ c0) (k1 : lb.length ≤ c1) :
    Calls Tryz.prog 4 #[.slice A0 la.length c0, .slice A1 lb.length c1, .bool f] w fun e w' => e = .returned (.bool true) ∧ Below w.heap.size w w' := by
  by_cases h : la.length < 1 ∨ lb.length < 1 ∨ 12 < la.length ∨ 12 < lb.length
  · exact QU w A0 c0 la A1 c1 lb f hA hB k0 k1 h
  · exact Kq w A0 c0 la A1 c1 lb f hA hB wa wb k0 k1 (by omega)
end Go.Proofs.YtlalbohhopmpdaaGreat.Top
