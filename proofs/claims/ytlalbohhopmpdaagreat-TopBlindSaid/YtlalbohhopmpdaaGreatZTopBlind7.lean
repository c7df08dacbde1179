/- Words and walks for TopBlind (made of the session's own texts; each part by itself). -/
import Derived.WideKeyEntry
import Derived.Maps.Range
import Derived.Test.YtlalbohhopmpdaaGreatZTopBlind5
set_option maxRecDepth 100000
set_option maxHeartbeats 8000000
set_option linter.unusedVariables false
set_option linter.unusedSimpArgs false
namespace Go.Proofs.YtlalbohhopmpdaaGreat.Top
open Go.RowKit Go.Proofs.YtlalbohhopmpdaaGreat.PTop Go.YW.PrintWords Go.YW.PrintLast Go.YW.PrintMore Go.Proofs.YtlalbohhopmpdaaGreat.Num
open Go.WideElems (Fit rd rg pl)
open Go.MapKept Go.ChangeMaps
theorem KE : WideMaps.KeyLaw Tryz.prog 158 := deep_law_laid VF (m := 2) (by omega) Kw (by kernel_rfl) Vr
theorem qa.entry {κ : Type} [DecidableEq κ] {K : Kz κ} (KL : WideMaps.KeyLaw Tryz.prog K.kd) {w : World} {b N c : Nat} {M : κ → Option Value} {t e : TypeId} (h : qa K w b N c M) (ht : Tryz.prog.underlying t = some (.map K.kd e)) {z : Value} (hz : ∀ u : World, (zeroValue e).run Tryz.prog u = .ok z u) (hN : N < maxLen) {x : κ} (hx : K.dom x) :
    ∃ (st : Nat) (w1 : World), (Instr.mapEntry t (.map (some b)) (K.val x)).run Tryz.prog w = .ok (.tuple #[(M x).getD z, .int .i64 st]) w1 ∧ w.grownBy w1 (some b) ∧ (∃ es cl, w1.heap[b]? = some (.map es cl)) ∧
      ∀ (w2 : World) (v : Value), w2.heap[b]? = w1.heap[b]? → ∃ w3, (Instr.entryStore t (.map (some b)) (.int .i64 st) v).run Tryz.prog w2 = .ok () w3 ∧ qa K w3 b (N + 1) (if (M x).isSome then c else c + 1) (fun y => if y = x then some v else M y) ∧ w2.grownBy w3 (some b) := by
  have hput := fun v => h.put ht hN hx v
  obtain ⟨D, ⟨es, clock, hb, F, hs, rfl⟩, _, h3⟩ := h
  obtain ⟨v0, st, es1, clock1, hrun, hv, hst⟩ := Go.WideElems.entry_then_store KL ht hz hb F (K.is x hx)
  have hget : v0 = (M x).getD z := by
    rcases Go.Maps.fit_look false K.law ht (hz w) hb F (K.is x hx) with ⟨_, hno, hat⟩ | ⟨e1, y, hm, hk, _, hR, hat, _⟩
    · rcases hv with ⟨e0, h4, h5, _⟩ | ⟨_, h4⟩
      · exact absurd h5 (hno e0 h4)
      · cases hM : M x with
        | none => exact h4
        | some u =>
          have h5 := ((h3 x hx).2 u hM).2 .nil
          rw [hat] at h5
          cases h5
    · have hy : y = (.held e1.val, []) := (Option.some.inj hR).symm
      rcases hv with ⟨e0, h4, h5, h6⟩ | ⟨hno, _⟩
      · have hkeys : es.toList.Pairwise (fun x y => x.key ≠ y.key) := ((stamped_iff es clock).1 F.stamped).2.2
        have h7 : e0 = e1 := Go.entry_eq_of_key hkeys h4 hm (h5.trans hk.symm)
        subst h7
        cases hM : M x with
        | none =>
          have h8 := Go.Maps.atKey_of_not_has ((h3 x hx).1 hM) .nil
          rw [hat, hy] at h8
          cases h8
        | some u =>
          have h8 := ((h3 x hx).2 u hM).2 .nil
          rw [hat, hy] at h8
          injection h8 with h8
          exact h6.trans h8
      · exact absurd hk (hno e1 hm)
  rw [hget] at hrun
  refine ⟨st, _, hrun, ⟨rfl, rfl, rfl, by simp [setBlock], fun i _ hi => heap_setBlock_other hb _ (fun e => hi (by rw [e]))⟩, ⟨es1, clock1, heap_setBlock_same hb _⟩, fun w2 v hw2 => ?_⟩
  rw [heap_setBlock_same hb] at hw2
  obtain ⟨es', clock', hr2, hr3⟩ := hst w2 v hw2
  obtain ⟨w', hr4, hm4, _⟩ := hput v
  rw [hr3] at hr4
  have e5 : setBlock w b (.map es' clock') = w' := by injection hr4
  refine ⟨_, hr2, hm4.keep ?_, ⟨rfl, rfl, rfl, by simp [setBlock], fun i _ hi => heap_setBlock_other hw2 _ (fun e => hi (by rw [e]))⟩⟩
  rw [heap_setBlock_same hw2, ← e5, heap_setBlock_same hb]
end Go.Proofs.YtlalbohhopmpdaaGreat.Top
namespace Go.Proofs.YtlalbohhopmpdaaGreat.PTop
open Go.RowKit Go.YW.PrintWords Go.YW.PrintLast Go.YW.PrintMore
attribute [local go_sem] yN yO xu xw yP yR xm xq zk zo   -- for this text's walks alone
def yE.l0 : Nat → List (xU) → Int → Int → Int → Option (Int)
 | 0, _, _, _, _ => none
 | k + 1, x0, x1, x5, x6 => if x5 < x6 then (if 0 ≤ ((wrap64 (x5 + x6)) / 2) then (if ((wrap64 (x5 + x6)) / 2) < (x0.length : Int) then (if ((qI x0 ((wrap64 (x5 + x6)) / 2)).f0) ≤ x1 then (yE.l0 k x0 x1 (wrap64 (((wrap64 (x5 + x6)) / 2) + 1)) x6) else (yE.l0 k x0 x1 x5 ((wrap64 (x5 + x6)) / 2))) else (none)) else (none)) else (some x5)
def yE.f (k : Nat) (l0 : List (xU)) (a1 : Int) : Option (Int) := yE.l0 k l0 a1 0 (l0.length : Int)
theorem yE.calls (k : Nat) (A0 : Option Addr) (c0 : Nat) (l0 : List (xU)) (a1 : Int) (r : Int) (w : World) (hr0 : Kd.C vo w A0 l0.length l0) (hc0 : l0.length ≤ c0) (h : yE.f k l0 a1 = some r) :
  Calls Tryz.prog 116 #[.slice A0 l0.length c0, .int .u64 a1] w fun e w' => e = .returned (.int .i64 r) ∧ zw w w' := by
 have HR0 := ze.mk hr0
 have HC0 := ze.mk hc0
 clear hr0 hc0
 have H : (yE.l0 k l0 a1 0 (l0.length : Int)) = some r := h
 clear h
 have H' := ze.mk H
 clear H
 go_enter Tryz.func116, Tryz.ntmps116
 go_wp2
 go_loopg [5, 6] k (fun kq v5 v6 w' => ∃ (x5_1 : Int) (x6_1 : Int), v5 = .int .i64 x5_1 ∧ v6 = .int .i64 x6_1 ∧ ze (yE.l0 kq l0 a1 x5_1 x6_1 = some r) ∧ ze (kq ≤ k) ∧ zw w w')
 case atStart => exact ⟨(0), ((l0.length : Int)), (by first | rfl | (simp; done) | (simp [*]; done)), (by first | rfl | (simp; done) | (simp [*]; done)), H', ⟨Nat.le_refl _⟩, by repeat (first | exact zw.refl _ | apply zw.step)⟩
 case round =>
  clear H'
  obtain ⟨x5_1, x6_1, rfl, rfl, HA, HK1, ⟨m1, rfl⟩⟩ := hrel
  cases gk with
  | zero => exact absurd HA.out (by simp [yE.l0])
  | succ k1 =>
   have H := HA.out
   clear HA
   simp only [yE.l0] at H
   by_cases c3 : x5_1 < x6_1
   ·
    rw [if_pos c3] at H
    have c3b0 : decide (x5_1 < x6_1) = true := dT c3
    clear c3
    obtain ⟨ji4, hji4⟩ : ∃ j_ : Int, ((wrap64 (x5_1 + x6_1)) / 2) = j_ := ⟨_, rfl⟩
    replace H : (if 0 ≤ (ji4) then (if (ji4) < (l0.length : Int) then (if ((qI l0 (ji4)).f0) ≤ a1 then (yE.l0 k1 l0 a1 (wrap64 ((ji4) + 1)) x6_1) else (yE.l0 k1 l0 a1 x5_1 ji4)) else (none)) else (none)) = some r := by first | (rw [hji4] at H; exact H) | (simp only [hji4] at H ⊢; exact H)
    by_cases c5 : 0 ≤ (ji4)
    ·
     rw [if_pos c5] at H
     have c5b0 : decide (0 ≤ (ji4)) = true := dT c5
     clear c5
     by_cases c6 : (ji4) < (l0.length : Int)
     ·
      rw [if_pos c6] at H
      have c6b0 : decide ((ji4) < (l0.length : Int)) = true := dT c6
      clear c6
      by_cases c7 : ((qI l0 (ji4)).f0) ≤ a1
      ·
       rw [if_pos c7] at H
       have c7b0 : decide (((qI l0 (ji4)).f0) ≤ a1) = true := dT c7
       clear c7
       have H' := ze.mk H
       clear H
       have p271 : 0 ≤ ((ji4) : Int) := of_decide_eq_true (by first | (with_reducible assumption) | assumption)
       have q271 : (ji4) < (l0.length : Int) := of_decide_eq_true (by first | (with_reducible assumption) | assumption)
       obtain ⟨ad271, e271, hx271_0, hx271_1⟩ := YC HR0.out (ji4) p271 q271
       cases e271
       replace p271 := eq_true p271
       replace q271 := eq_true q271
       go_wp2
       go_roundg k1
       case measure => have := HK1.out; omega
       case rel => exact ⟨(wrap64 ((ji4) + 1)), (x6_1), (by first | rfl | (simp; done) | (simp only [← hji4] <;> (first | rfl | simp)) | (simp [*]; done)), (by first | rfl | (simp; done) | (simp [*]; done)), H', ⟨by have := HK1.out; omega⟩, by repeat (first | exact zw.refl _ | apply zw.step)⟩
      ·
       rw [if_neg c7] at H
       have c7b0 : decide (((qI l0 (ji4)).f0) ≤ a1) = false := dF c7
       clear c7
       have H' := ze.mk H
       clear H
       have p271 : 0 ≤ ((ji4) : Int) := of_decide_eq_true (by first | (with_reducible assumption) | assumption)
       have q271 : (ji4) < (l0.length : Int) := of_decide_eq_true (by first | (with_reducible assumption) | assumption)
       obtain ⟨ad271, e271, hx271_0, hx271_1⟩ := YC HR0.out (ji4) p271 q271
       cases e271
       replace p271 := eq_true p271
       replace q271 := eq_true q271
       go_wp2
       go_roundg k1
       case measure => have := HK1.out; omega
       case rel => exact ⟨(x5_1), (ji4), (by first | rfl | (simp; done) | (simp [*]; done)), (by first | rfl | (simp; done) | (simp only [← hji4] <;> (first | rfl | simp)) | (simp [*]; done)), H', ⟨by have := HK1.out; omega⟩, by repeat (first | exact zw.refl _ | apply zw.step)⟩
     ·
      rw [if_neg c6] at H
      exact absurd H (by simp)
    ·
     rw [if_neg c5] at H
     exact absurd H (by simp)
   ·
    rw [if_neg c3] at H
    have c3b0 : decide (x5_1 < x6_1) = false := dF c3
    clear c3
    obtain rfl := Option.some.inj H
    go_wp2
    go_ret
    exact ⟨by first | rfl | (simp; done) | (simp [*]; done), by repeat (first | exact zw.refl _ | apply zw.step)⟩
def vD.f (k : Nat) (l0 : List (xU)) (a1 : Int) : Option (Int) := (yE.f k l0 a1).bind fun t272 => (if t272 = 0 then (some 0) else (if 0 ≤ (wrap64 (t272 - 1)) then (if (wrap64 (t272 - 1)) < (l0.length : Int) then (some ((qI l0 (wrap64 (t272 - 1))).f1)) else (none)) else (none)))
theorem vD.calls (k : Nat) (A0 : Option Addr) (c0 : Nat) (l0 : List (xU)) (a1 : Int) (r : Int) (w : World) (hr0 : Kd.C vo w A0 l0.length l0) (hc0 : l0.length ≤ c0) (h : vD.f k l0 a1 = some r) :
  Calls Tryz.prog 245 #[.slice A0 l0.length c0, .int .u64 a1] w fun e w' => e = .returned (.int .u16 r) ∧ zw w w' := by
 have HR0 := ze.mk hr0
 have HC0 := ze.mk hc0
 clear hr0 hc0
 have H : ((yE.f k l0 a1).bind fun t272 => (if t272 = 0 then (some 0) else (if 0 ≤ (wrap64 (t272 - 1)) then (if (wrap64 (t272 - 1)) < (l0.length : Int) then (some ((qI l0 (wrap64 (t272 - 1))).f1)) else (none)) else (none)))) = some r := h
 clear h
 replace H := Option.bind_eq_some_iff.mp H
 obtain ⟨t272, A30, H⟩ := H
 replace H : (if t272 = 0 then (some 0) else (if 0 ≤ (wrap64 (t272 - 1)) then (if (wrap64 (t272 - 1)) < (l0.length : Int) then (some ((qI l0 (wrap64 (t272 - 1))).f1)) else (none)) else (none))) = some r := H
 have A3 := ze.mk A30
 clear A30
 by_cases c4 : t272 = 0
 ·
  rw [if_pos c4] at H
  have c4b0 : (t272 == 0) = true := beq_iff_eq.mpr c4
  have c4b1 : (t272 != 0) = false := bne_eq_false_iff_eq.mpr c4
  clear c4
  obtain rfl := Option.some.inj H
  go_enter Tryz.func245, Tryz.ntmps245
  go_wp2_with (first | ((with_reducible refine zO (f := 116) rfl ?_); refine yL (some 8) rfl rfl Tryz.func116 (by kernel_rfl) rfl #[.slice A0 l0.length c0, .int .u64 a1] rfl (by (try simp only [List.map_toArray, List.map_cons, List.map_nil]); first | done | rfl | (simp only [List.length_drop, List.length_take]; rfl)) ?_; (with_reducible refine (yE.calls k _ _ l0 a1 t272 _ ?side1 ?side2 A3.out).mono ?_); (case side1 => repeat (first | exact HR0.out | (with_reducible refine Kd.yC ?_ _) | (with_reducible refine Kd.yF ?_ _) | (with_reducible refine Kd.xe ?_))); (case side2 => exact HC0.out); rintro e w' ⟨rfl, ⟨nd, rfl⟩⟩; refine ⟨_, rfl, ?_⟩))
  go_ret
  exact ⟨by first | rfl | (simp; done) | (simp [*]; done), by repeat (first | exact zw.refl _ | apply zw.step)⟩
 ·
  rw [if_neg c4] at H
  have c4b0 : (t272 == 0) = false := beq_eq_false_iff_ne.mpr c4
  have c4b1 : (t272 != 0) = true := bne_iff_ne.mpr c4
  obtain ⟨ji5, hji5⟩ : ∃ j_ : Int, (wrap64 (t272 - 1)) = j_ := ⟨_, rfl⟩
  replace H : (if 0 ≤ (ji5) then (if (ji5) < (l0.length : Int) then (some ((qI l0 (ji5)).f1)) else (none)) else (none)) = some r := by first | (rw [hji5] at H; exact H) | (simp only [hji5] at H ⊢; exact H)
  (try rw [hji5] at A3)
  have hji5w : (IntKind.i64.wrap (t272 - 1)) = ji5 := (xy _).trans hji5
  by_cases c6 : 0 ≤ (ji5)
  ·
   rw [if_pos c6] at H
   have c6b0 : decide (0 ≤ (ji5)) = true := dT c6
   clear c6
   by_cases c7 : (ji5) < (l0.length : Int)
   ·
    rw [if_pos c7] at H
    have c7b0 : decide ((ji5) < (l0.length : Int)) = true := dT c7
    clear c7
    obtain rfl := Option.some.inj H
    go_enter Tryz.func245, Tryz.ntmps245
    go_wp2_with (first | ((with_reducible refine zO (f := 116) rfl ?_); refine yL (some 8) rfl rfl Tryz.func116 (by kernel_rfl) rfl #[.slice A0 l0.length c0, .int .u64 a1] rfl (by (try simp only [List.map_toArray, List.map_cons, List.map_nil]); first | done | rfl | (simp only [List.length_drop, List.length_take]; rfl)) ?_; (with_reducible refine (yE.calls k _ _ l0 a1 t272 _ ?side1 ?side2 A3.out).mono ?_); (case side1 => repeat (first | exact HR0.out | (with_reducible refine Kd.yC ?_ _) | (with_reducible refine Kd.yF ?_ _) | (with_reducible refine Kd.xe ?_))); (case side2 => exact HC0.out); rintro e w' ⟨rfl, ⟨nd, rfl⟩⟩; refine ⟨_, rfl, ?_⟩; have p273 : 0 ≤ ((ji5) : Int) := of_decide_eq_true (by first | (with_reducible assumption) | assumption); have q273 : (ji5) < (l0.length : Int) := of_decide_eq_true (by first | (with_reducible assumption) | assumption); obtain ⟨ad273, e273, hx273_0, hx273_1⟩ := YC HR0.out (ji5) p273 q273; cases e273; replace p273 := eq_true p273; replace q273 := eq_true q273))
    go_ret
    exact ⟨by first | rfl | (simp; done) | (simp only [← hji5] <;> (first | rfl | simp)) | (simp [*]; done), by repeat (first | exact zw.refl _ | apply zw.step)⟩
   ·
    rw [if_neg c7] at H
    exact absurd H (by simp)
  ·
   rw [if_neg c6] at H
   exact absurd H (by simp)
end Go.Proofs.YtlalbohhopmpdaaGreat.PTop
namespace Go.Proofs.YtlalbohhopmpdaaGreat.Top
open Go.RowKit Go.Proofs.YtlalbohhopmpdaaGreat.PTop Go.YW.PrintWords Go.YW.PrintLast Go.YW.PrintMore Go.Proofs.YtlalbohhopmpdaaGreat.Num
def rises (l : List xU) : Prop := l.Pairwise (fun a b => a.f0 < b.f0)
def WH (l : List xU) (q : Int) : Int := (((l.filter (fun v => decide (v.f0 ≤ q))).getLast?).map (·.f1)).getD 0
def newest (l : List xU) : Int := ((l.getLast?).map (·.f0)).getD 0
theorem zaK (l : List xU) (i : Nat) (h : i < l.length) : qI l (i : Int) = l[i] := by
  unfold qI
  rw [Int.toNat_natCast, List.getD_eq_getElem?_getD, List.getElem?_eq_getElem h, Option.getD_some]
theorem Vj (l : List xU) (q : Int) (hn : l.length ≤ 1000000) (hs : rises l) : ∀ (d lo hi k : Nat), hi - lo ≤ d → lo ≤ hi → hi ≤ l.length → d + 1 ≤ k → (∀ i (h : i < l.length), i < lo → l[i].f0 ≤ q) → (∀ i (h : i < l.length), hi ≤ i → q < l[i].f0) →
    ∃ r : Nat, yE.l0 k l q (lo : Int) (hi : Int) = some (r : Int) ∧ r ≤ l.length ∧ (∀ i (h : i < l.length), i < r → l[i].f0 ≤ q) ∧ ∀ i (h : i < l.length), r ≤ i → q < l[i].f0
  | 0, lo, hi, k, h1, h2, h3, h4, h5, h6 => by
    obtain ⟨k, rfl⟩ : ∃ m, k = m + 1 := ⟨k - 1, by omega⟩
    rw [yE.l0, if_neg (by omega)]
    exact ⟨lo, rfl, by omega, h5, fun i hi' h => h6 i hi' (by omega)⟩
  | d + 1, lo, hi, k, h1, h2, h3, h4, h5, h6 => by
    obtain ⟨k, rfl⟩ : ∃ m, k = m + 1 := ⟨k - 1, by omega⟩
    by_cases hlt : lo < hi
    · have hw : wrap64 ((lo : Int) + (hi : Int)) = (lo : Int) + hi := zu (by omega) (by omega)
      obtain ⟨m, hm⟩ : ∃ m : Nat, m = (lo + hi) / 2 := ⟨_, rfl⟩
      have hm2 : wrap64 ((lo : Int) + (hi : Int)) / 2 = (m : Int) := by rw [hw]; omega
      have hml : m < l.length := by omega
      rw [yE.l0, if_pos (by omega), hm2, if_pos (by omega), if_pos (by omega), zaK l m hml]
      by_cases hp : l[m].f0 ≤ q
      · rw [if_pos hp, zu (by omega) (by omega), show (m : Int) + 1 = ((m + 1 : Nat) : Int) by omega]
        refine Vj l q hn hs d (m + 1) hi k (by omega) (by omega) h3 (by omega) (fun i hi' h => ?_) h6
        by_cases him : i = m
        · subst him; exact hp
        · have := List.pairwise_iff_getElem.1 hs i m hi' hml (by omega)
          omega
      · rw [if_neg hp]
        refine Vj l q hn hs d lo m k (by omega) (by omega) (by omega) (by omega) h5 (fun i hi' h => ?_)
        by_cases him : i = m
        · subst him; omega
        · have := List.pairwise_iff_getElem.1 hs m i hml hi' (by omega)
          omega
    · rw [yE.l0, if_neg (by omega)]
      exact ⟨lo, rfl, by omega, h5, fun i hi' h => h6 i hi' (by omega)⟩
theorem Yw (p : xU → Bool) : ∀ (l : List xU) (r : Nat), r ≤ l.length → (∀ i (h : i < l.length), i < r → p l[i] = true) → (∀ i (h : i < l.length), r ≤ i → p l[i] = false) → l.filter p = l.take r
  | [], r, _, _, _ => by simp
  | a :: l, 0, _, h1, h2 => by
    rw [List.take_zero, List.filter_eq_nil_iff]
    intro x hx
    obtain ⟨i, hi, rfl⟩ := List.getElem_of_mem hx
    rw [h2 i hi (Nat.zero_le _)]
    decide
  | a :: l, r + 1, hr, h1, h2 => by
    have h0 := h1 0 (by simp) (by omega)
    rw [List.getElem_cons_zero] at h0
    rw [List.filter_cons_of_pos h0, List.take_succ_cons]
    congr 1
    refine Yw p l r (by simp at hr; omega) (fun i hi h => ?_) (fun i hi h => ?_)
    · have := h1 (i + 1) (by simp; omega) (by omega)
      rwa [List.getElem_cons_succ] at this
    · have := h2 (i + 1) (by simp; omega) (by omega)
      rwa [List.getElem_cons_succ] at this
theorem at_eq (l : List xU) (q : Int) (hn : l.length ≤ 1000000) (hs : rises l) {k : Nat} (hk : 1000001 ≤ k) : vD.f k l q = some (WH l q) := by
  obtain ⟨r, h1, h2, h3, h4⟩ := Vj l q hn hs l.length 0 l.length k (by omega) (by omega) (Nat.le_refl _) (by omega) (fun i _ h => by omega) (fun i h1 h2 => by omega)
  have hf : l.filter (fun v => decide (v.f0 ≤ q)) = l.take r := Yw _ l r h2 (fun i h h5 => decide_eq_true (h3 i h h5)) (fun i h h5 => decide_eq_false (by have := h4 i h h5; omega))
  unfold vD.f yE.f WH
  rw [show ((0 : Nat) : Int) = 0 from rfl] at h1
  rw [h1, Option.bind_some, hf]
  by_cases hr : r = 0
  · subst hr
    rw [if_pos (show ((0 : Nat) : Int) = 0 from rfl)]
    rfl
  · rw [if_neg (by omega), zu (by omega) (by omega), if_pos (by omega), if_pos (by omega), show (r : Int) - 1 = ((r - 1 : Nat) : Int) by omega, zaK l (r - 1) (by omega), List.getLast?_eq_getElem?, List.length_take, Nat.min_eq_left h2, List.getElem?_take_of_lt (by omega), List.getElem?_eq_getElem (by omega)]
    rfl
end Go.Proofs.YtlalbohhopmpdaaGreat.Top
namespace Go.Proofs.YtlalbohhopmpdaaGreat.Top
open Go.RowKit Go.Proofs.YtlalbohhopmpdaaGreat.PTop Go.YW.PrintWords Go.YW.PrintLast Go.YW.PrintMore Go.Proofs.YtlalbohhopmpdaaGreat.Num
attribute [local go_sem] zk zo
theorem zaR (w : World) : Calls Tryz.prog 170 #[.int .i64 3] w fun e w' => e = .returned (.tuple #[.int .i64 125, .int .i64 0]) ∧ zw w w' := by
  go_enter Tryz.func170, Tryz.ntmps170
  go_wp2
  exact bodyPost_ret (v := .tuple #[.int .i64 125, .int .i64 0]) (by simp [results, Tryz.results170, go_sem]) rfl ⟨rfl, ⟨0, rfl⟩⟩
theorem zbm (w : World) : Calls Tryz.prog 170 #[.int .i64 6] w fun e w' => e = .returned (.tuple #[.int .i64 0, .int .i64 1]) ∧ zw w w' := by
  go_enter Tryz.func170, Tryz.ntmps170
  go_wp2
  exact bodyPost_ret (v := .tuple #[.int .i64 0, .int .i64 1]) (by simp [results, Tryz.results170, go_sem]) rfl ⟨rfl, ⟨0, rfl⟩⟩
theorem zdj (w : World) : Calls Tryz.prog 237 #[.int .i64 6] w fun e w' => e = .returned (.tuple #[.bool false, .bool true]) ∧ zw w w' := by
  go_enter Tryz.func237, Tryz.ntmps237
  go_wp2
  exact bodyPost_ret (v := .tuple #[.bool false, .bool true]) (by simp [results, Tryz.results237, go_sem]) rfl ⟨rfl, ⟨0, rfl⟩⟩
theorem zad (w : World) : Calls Tryz.prog 216 #[.int .i64 6] w fun e w' => e = .returned (.bool true) ∧ zw w w' := by
  go_enter Tryz.func216, Tryz.ntmps216
  go_wp2_with (fail)
  refine (zdj w).mono ?_
  rintro e w1 ⟨rfl, hd⟩
  have HD := hQ hd
  clear hd
  go_wp2
  exact bodyPost_ret (v := .bool true) (by simp [results, Tryz.results216, go_sem]) rfl ⟨rfl, HD.out⟩
theorem zdc (w : World) : Calls Tryz.prog 71 #[.int .i64 2] w fun e w' => e = .returned (.bool false) ∧ zw w w' := by
  go_enter Tryz.func71, Tryz.ntmps71
  go_wp2
  exact bodyPost_ret (v := .bool false) (by simp [results, Tryz.results71, go_sem]) rfl ⟨rfl, ⟨0, rfl⟩⟩
theorem VI (w : World) (a : Int) (h : 0 ≤ a ∧ a < 256) : Calls Tryz.prog 169 #[.int .i64 a] w fun e w' => e = .returned (.bool true) ∧ zw w w' := by
  have d1 : decide (a ≥ 0) = true := dT h.1
  have d2 : decide (a < 65536) = true := decide_eq_true (by omega)
  have d3 : decide (a ≤ 65535) = true := decide_eq_true (by omega)
  clear h
  go_enter Tryz.func169, Tryz.ntmps169
  go_wp2
  exact bodyPost_ret (v := .bool true) (by simp [results, Tryz.results169, go_sem]) rfl ⟨rfl, ⟨0, rfl⟩⟩
theorem zbY (w : World) (n : Int) (h : 1 ≤ n ∧ n ≤ 125) : Calls Tryz.prog 171 #[.int .i64 n, .int .i64 125] w fun e w' => e = .returned (.bool true) ∧ zw w w' := by
  have d1 : decide (n ≥ 1) = true := dT h.1
  have d2 : decide (n ≤ 125) = true := dT h.2
  clear h
  go_enter Tryz.func171, Tryz.ntmps171
  go_wp2
  exact bodyPost_ret (v := .bool true) (by simp [results, Tryz.results171, go_sem]) rfl ⟨rfl, ⟨0, rfl⟩⟩
theorem zd3 (w : World) (a : Int) (h : 0 ≤ a ∧ a < 65536) : Calls Tryz.prog 201 #[.agg #[.int .i64 2, .int .i64 a]] w fun e w' => e = .returned (.bool true) ∧ Below w.heap.size w w' := by
  have hu158 := Tryz.underlying158
  have X1 := hQ (zi w (.cells #[.int .i64 2, .int .i64 a] 158 (0, 0)))
  have x0 : (w.alloc (.cells #[.int .i64 2, .int .i64 a] 158)).cell? ⟨w.heap.size, 0, none⟩ = some (.int .i64 2) := za X1.out 0
  have x1 : (w.alloc (.cells #[.int .i64 2, .int .i64 a] 158)).cell? ⟨w.heap.size, 1, none⟩ = some (.int .i64 a) := za X1.out 1
  have B1 := hQ (show Below w.heap.size w (w.alloc (.cells #[.int .i64 2, .int .i64 a] 158)) from (Below.refl _ _).alloc (Nat.le_refl _) _)
  have d1 : decide (a ≥ 0) = true := dT h.1
  have d2 : decide (a < 65536) = true := dT h.2
  clear h
  go_enter Tryz.func201, Tryz.ntmps201
  go_wp2
  exact bodyPost_ret (v := .bool true) (by simp [results, Tryz.results201, go_sem]) rfl ⟨rfl, B1.out⟩
theorem zax (w : World) (t a v : Int) (h : t = 2 ∧ 0 ≤ a ∧ a < 65536) : Calls Tryz.prog 153 #[.agg #[.int .i64 t, .int .i64 a, .int .u16 v]] w fun e w' => e = .returned (.bool true) ∧ Below w.heap.size w w' := by
  obtain ⟨rfl, ha⟩ := h
  have hu208 := Tryz.underlying208
  have hu158 := Tryz.underlying158
  have X1 := hQ (zi w (.cells #[.int .i64 2, .int .i64 a, .int .u16 v] 208 (0, 0)))
  have x0 : (w.alloc (.cells #[.int .i64 2, .int .i64 a, .int .u16 v] 208)).cell? ⟨w.heap.size, 0, none⟩ = some (.int .i64 2) := za X1.out 0
  have x1 : (w.alloc (.cells #[.int .i64 2, .int .i64 a, .int .u16 v] 208)).cell? ⟨w.heap.size, 1, none⟩ = some (.int .i64 a) := za X1.out 1
  have B1 := hQ (show Below w.heap.size w (w.alloc (.cells #[.int .i64 2, .int .i64 a, .int .u16 v] 208)) from (Below.refl _ _).alloc (Nat.le_refl _) _)
  have HA := hQ ha
  clear ha
  go_enter Tryz.func153, Tryz.ntmps153
  go_wp2_with (fail)
  refine (zd3 _ a HA.out).mono ?_
  rintro e w2 ⟨rfl, hb⟩
  have B2 := hQ (zf B1.out B1.out.size hb)
  have X2 := hQ (zb X1.out hb)
  clear hb x0 x1
  have x0 : w2.cell? ⟨w.heap.size, 0, none⟩ = some (.int .i64 2) := za X2.out 0
  have x2 : w2.cell? ⟨w.heap.size, 2, none⟩ = some (.int .u16 v) := za X2.out 2
  by_cases hv : v ≤ 1
  · have d1 : decide (v ≤ 1) = true := dT hv
    clear hv
    go_wp2
    exact bodyPost_ret (v := .bool true) (by simp [results, Tryz.results153, go_sem]) rfl ⟨rfl, B2.out⟩
  · have d1 : decide (v ≤ 1) = false := dF hv
    clear hv
    go_wp2_with (fail)
    refine (zdc w2).mono ?_
    rintro e w3 ⟨rfl, hd⟩
    have B3 := hQ (zf B2.out B2.out.size hd.below)
    clear hd
    go_wp2
    exact bodyPost_ret (v := .bool true) (by simp [results, Tryz.results153, go_sem]) rfl ⟨rfl, B3.out⟩
theorem zco (w : World) (A : Option Addr) (c : Nat) : Calls Tryz.prog 248 #[.slice A 1 c] w fun e w' => e = .returned (.bool true) ∧ Below w.heap.size w w' := by
  go_enter Tryz.func248, Tryz.ntmps248
  go_wp2_with (fail)
  refine wp_loop_rounds 1 ?_
  rw [rounds_succ]
  go_wp2
  exact bodyPost_ret (v := .bool true) (by simp [results, Tryz.results248, go_sem]) rfl ⟨rfl, Below.refl _ _⟩
theorem zaJ (w : World) (v : Int) (h : 0 ≤ v ∧ v < 65536) : Calls Tryz.prog 177 #[.agg #[.int .i64 6, .int .i64 100, .int .i64 0, .int .u16 v, .int .u16 0, .int .u16 0, .slice none 0 0, .slice none 0 0, .int .i64 0, .int .i64 0, .int .i64 0, .int .i64 0], .int .i64 100] w fun e w' => e = .returned (.tuple #[.int .i64 v, .bool true]) ∧ Below w.heap.size w w' := by
  have hu37 := Tryz.underlying37
  have X1 := hQ (zi w (.cells #[.int .i64 6, .int .i64 100, .int .i64 0, .int .u16 v, .int .u16 0, .int .u16 0, .slice none 0 0, .slice none 0 0, .int .i64 0, .int .i64 0, .int .i64 0, .int .i64 0] 37 (0, 0)))
  have x0 : (w.alloc (.cells #[.int .i64 6, .int .i64 100, .int .i64 0, .int .u16 v, .int .u16 0, .int .u16 0, .slice none 0 0, .slice none 0 0, .int .i64 0, .int .i64 0, .int .i64 0, .int .i64 0] 37)).cell? ⟨w.heap.size, 0, none⟩ = some (.int .i64 6) := za X1.out 0
  have x1 : (w.alloc (.cells #[.int .i64 6, .int .i64 100, .int .i64 0, .int .u16 v, .int .u16 0, .int .u16 0, .slice none 0 0, .slice none 0 0, .int .i64 0, .int .i64 0, .int .i64 0, .int .i64 0] 37)).cell? ⟨w.heap.size, 1, none⟩ = some (.int .i64 100) := za X1.out 1
  have x3 : (w.alloc (.cells #[.int .i64 6, .int .i64 100, .int .i64 0, .int .u16 v, .int .u16 0, .int .u16 0, .slice none 0 0, .slice none 0 0, .int .i64 0, .int .i64 0, .int .i64 0, .int .i64 0] 37)).cell? ⟨w.heap.size, 3, none⟩ = some (.int .u16 v) := za X1.out 3
  have B1 := hQ (show Below w.heap.size w (w.alloc (.cells #[.int .i64 6, .int .i64 100, .int .i64 0, .int .u16 v, .int .u16 0, .int .u16 0, .slice none 0 0, .slice none 0 0, .int .i64 0, .int .i64 0, .int .i64 0, .int .i64 0] 37)) from (Below.refl _ _).alloc (Nat.le_refl _) _)
  have hw : IntKind.i64.wrap v = v := by rw [xy]; exact zu (by omega) (by omega)
  have hw2 : wrap64 v = v := zu (by omega) (by omega)
  clear h
  go_enter Tryz.func177, Tryz.ntmps177
  go_wp2
  exact bodyPost_ret (v := .tuple #[.int .i64 v, .bool true]) (by simp [results, Tryz.results177, go_sem]) rfl ⟨rfl, B1.out⟩
theorem Qa (w : World) : Calls Tryz.prog 132 #[.int .i64 3] w fun e w' => e = .returned (.bool true) ∧ zw w w' := by
  go_enter Tryz.func132, Tryz.ntmps132
  go_wp2
  exact bodyPost_ret (v := .bool true) (by simp [results, Tryz.results132, go_sem]) rfl ⟨rfl, ⟨0, rfl⟩⟩
theorem zcb (w : World) : Calls Tryz.prog 160 #[.int .i64 3] w fun e w' => e = .returned (.tuple #[.int .i64 2, .bool true]) ∧ zw w w' := by
  go_enter Tryz.func160, Tryz.ntmps160
  go_wp2
  exact bodyPost_ret (v := .tuple #[.int .i64 2, .bool true]) (by simp [results, Tryz.results160, go_sem]) rfl ⟨rfl, ⟨0, rfl⟩⟩
theorem zci (w : World) : Calls Tryz.prog 154 #[.int .i64 3] w fun e w' => e = .returned (.bool true) ∧ zw w w' := by
  go_enter Tryz.func154, Tryz.ntmps154
  go_wp2
  exact bodyPost_ret (v := .bool true) (by simp [results, Tryz.results154, go_sem]) rfl ⟨rfl, ⟨0, rfl⟩⟩
theorem zaW (w : World) : Calls Tryz.prog 87 #[.int .i64 3] w fun e w' => e = .returned (.tuple #[.int .i64 125, .int .i64 0]) ∧ zw w w' := by
  go_enter Tryz.func87, Tryz.ntmps87
  go_wp2
  exact bodyPost_ret (v := .tuple #[.int .i64 125, .int .i64 0]) (by simp [results, Tryz.results87, go_sem]) rfl ⟨rfl, ⟨0, rfl⟩⟩
theorem QP (w : World) : Calls Tryz.prog 132 #[.int .i64 6] w fun e w' => e = .returned (.bool true) ∧ zw w w' := by
  go_enter Tryz.func132, Tryz.ntmps132
  go_wp2
  exact bodyPost_ret (v := .bool true) (by simp [results, Tryz.results132, go_sem]) rfl ⟨rfl, ⟨0, rfl⟩⟩
theorem zcf (w : World) : Calls Tryz.prog 160 #[.int .i64 6] w fun e w' => e = .returned (.tuple #[.int .i64 2, .bool true]) ∧ zw w w' := by
  go_enter Tryz.func160, Tryz.ntmps160
  go_wp2
  exact bodyPost_ret (v := .tuple #[.int .i64 2, .bool true]) (by simp [results, Tryz.results160, go_sem]) rfl ⟨rfl, ⟨0, rfl⟩⟩
theorem zb2 (w : World) : Calls Tryz.prog 154 #[.int .i64 6] w fun e w' => e = .returned (.bool true) ∧ zw w w' := by
  go_enter Tryz.func154, Tryz.ntmps154
  go_wp2
  exact bodyPost_ret (v := .bool true) (by simp [results, Tryz.results154, go_sem]) rfl ⟨rfl, ⟨0, rfl⟩⟩
theorem za2 (w : World) : Calls Tryz.prog 87 #[.int .i64 6] w fun e w' => e = .returned (.tuple #[.int .i64 0, .int .i64 1]) ∧ zw w w' := by
  go_enter Tryz.func87, Tryz.ntmps87
  go_wp2
  exact bodyPost_ret (v := .tuple #[.int .i64 0, .int .i64 1]) (by simp [results, Tryz.results87, go_sem]) rfl ⟨rfl, ⟨0, rfl⟩⟩
theorem Xd (w : World) (a : Int) (h : 0 ≤ a ∧ a < 65536) : Calls Tryz.prog 88 #[.int .i64 a] w fun e w' => e = .returned (.bool true) ∧ zw w w' := by
  have d1 : decide (a ≥ 0) = true := dT h.1
  have d2 : decide (a ≤ 65535) = true := decide_eq_true (by omega)
  clear h
  go_enter Tryz.func88, Tryz.ntmps88
  go_wp2
  exact bodyPost_ret (v := .bool true) (by simp [results, Tryz.results88, go_sem]) rfl ⟨rfl, ⟨0, rfl⟩⟩
end Go.Proofs.YtlalbohhopmpdaaGreat.Top
