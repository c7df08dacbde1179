/- Words and walks for TopBlind (made of the session's own texts; each part by itself). -/
import Derived.Deep.DeepCutAuto
import Derived.Deep.DeepMust
import Derived.Deep.RegionLaw
import Derived.Test.YtlalbohhopmpdaaGreatZTopBlind9
set_option maxRecDepth 100000
set_option maxHeartbeats 8000000
set_option linter.unusedVariables false
set_option linter.unusedSimpArgs false
namespace Go.Proofs.YtlalbohhopmpdaaGreat.Top
open Go.RowKit Go.Proofs.YtlalbohhopmpdaaGreat.PTop Go.YW.PrintWords Go.YW.PrintLast Go.YW.PrintMore Go.Proofs.YtlalbohhopmpdaaGreat.Num
attribute [local go_sem] zk zo
theorem JJ (w : World) (A : Option Addr) (c : Nat) (t a : Int) (f : Value) :
    Calls Tryz.prog 252 #[.slice A 0 c, .agg #[.int .i64 t, .int .i64 a], f] w fun e w' => e = .returned (.tuple #[.int .i64 0, .bool false]) ∧ Below w.heap.size w w' := by
  have hu155 := Tryz.underlying155
  have hu158 := Tryz.underlying158
  go_enter Tryz.func252, Tryz.ntmps252
  go_wp2_with (fail)
  go_loopg [9, 10] 0 (fun g_ v9 v10 wx => v9 = .int .i64 0 ∧ v10 = .int .i64 0 ∧ ze (Below w.heap.size w wx))
  case atStart => exact ⟨rfl, rfl, ⟨(Below.refl _ _).alloc (Nat.le_refl _) _⟩⟩
  case round =>
    obtain ⟨rfl, rfl, HB⟩ := hrel
    go_wp2_with (fail)
    go_region
    go_wp2
    exact bodyPost_ret (v := .tuple #[.int .i64 0, .bool false]) (by simp [results, Tryz.results252, go_sem]) rfl ⟨rfl, by first | exact HB.out.trans (zl (Below.refl _ _)) | exact zq HB.out _⟩
theorem Jd (w : World) (A : Option Addr) (c : Nat) (t a : Int) :
    Calls Tryz.prog 244 #[.slice A 0 c, .agg #[.int .i64 t, .int .i64 a]] w fun e w' => e = .returned (.tuple #[.int .i64 0, .bool false]) ∧ Below w.heap.size w w' := by
  have hu155 := Tryz.underlying155
  have hu158 := Tryz.underlying158
  have HB0 := hQ ((Below.refl w.heap.size w).alloc (Nat.le_refl _) (.cells #[.int .i64 t, .int .i64 a] 158))
  go_enter Tryz.func244, Tryz.ntmps244
  go_wp2_with (fail)
  refine (JJ _ A c t a _).mono ?_
  rintro e w1 ⟨rfl, hb⟩
  have HB := hQ (zf HB0.out HB0.out.size hb)
  clear hb
  go_wp2_with (fail)
  go_region
  go_wp2
  exact bodyPost_ret (v := .tuple #[.int .i64 0, .bool false]) (by simp [results, Tryz.results244, go_sem]) rfl ⟨rfl, by first | exact HB.out.trans (zl (Below.refl _ _)) | exact zq HB.out _⟩
theorem zbz (w : World) (A : Option Addr) (c : Nat) (t a : Int) :
    Calls Tryz.prog 233 #[.slice A 0 c, .agg #[.int .i64 t, .int .i64 a]] w fun e w' => e = .returned (.tuple #[.int .u16 0, .bool false]) ∧ Below w.heap.size w w' := by
  have hu155 := Tryz.underlying155
  have hu158 := Tryz.underlying158
  have HB0 := hQ ((Below.refl w.heap.size w).alloc (Nat.le_refl _) (.cells #[.int .i64 t, .int .i64 a] 158))
  go_enter Tryz.func233, Tryz.ntmps233
  go_wp2_with (fail)
  refine (Jd _ A c t a).mono ?_
  rintro e w1 ⟨rfl, hb⟩
  have HB := hQ (zf HB0.out HB0.out.size hb)
  clear hb
  go_wp2
  exact bodyPost_ret (v := .tuple #[.int .u16 0, .bool false]) (by simp [results, Tryz.results233, go_sem]) rfl ⟨rfl, HB.out⟩
end Go.Proofs.YtlalbohhopmpdaaGreat.Top
namespace Go.Proofs.YtlalbohhopmpdaaGreat.Tiny
open Go.RowKit Go.YW.PrintWords Go.YW.PrintLast
section
variable {P : Program} {ops : Array Oper} {Q : Exit → Act → World → Prop} {md : Region.Mode} {S : World → Prop} {ds : List Nat} {oi : Oper} {v : Value} {fuel : Nat} {l l' : Array Bool} {a a' : Act} {w : World}
theorem pq_ (i : Nat) (N : Option Tmp) (h : zL P md ops Q S ds fuel l' a' w) (hi : ops[i]? = some oi := by rfl) (hN : oi.dst = N := by rfl) (hl : l.setIfInBounds i true = l' := by (simp only [List.setIfInBounds_toArray, List.set_cons_zero, List.set_cons_succ]; rfl)) (hc : Ws md ops l l' i = true := by kernel_rfl)
    (hQ : ∀ c a w, Q (.panic c) (a.put oi.dst v) w → Q (.panic c) a w := by exact fun _ _ _ h => h) (hy : Yields P ops oi v a := by (refine Or.inl ⟨by rfl, ?_⟩; intro w'; go_simp; with_reducible rfl))
    (ha : a.put N v = a' := by (simp only [Act.put, List.setIfInBounds_toArray, List.set_cons_zero, List.set_cons_succ, xy, xV]; rfl)) : zL P md ops Q S ds (fuel + 1) l a w :=
  jr _ hi hN hc hQ hy ha h
theorem uq_ (i : Nat) (N : Option Tmp) (h : zL P md ops Q S ds fuel l' a' w) (hi : ops[i]? = some oi := by rfl) (hN : oi.dst = N := by rfl) (hl : l.setIfInBounds i true = l' := by (simp only [List.setIfInBounds_toArray, List.set_cons_zero, List.set_cons_succ]; rfl)) (hc : Ws md ops l l' i = true := by kernel_rfl)
    (hQ : ∀ c a w, Q (.panic c) (a.put oi.dst undef) w → Q (.panic c) a w := by exact fun _ _ _ h => h) (hy : Yields P ops oi undef a := by exact Or.inr ⟨by rfl, rfl⟩)
    (ha : a.put N undef = a' := by (simp only [Act.put, List.setIfInBounds_toArray, List.set_cons_zero, List.set_cons_succ, xy, xV]; rfl)) : zL P md ops Q S ds (fuel + 1) l a w :=
  jr _ hi hN hc hQ hy ha h
theorem tq_ (i : Nat) (N : Option Tmp) (hS : S w) (h : zL P md ops Q S ds fuel l' a' w) (hi : ops[i]? = some oi := by rfl) (hN : oi.dst = N := by rfl) (hl : l.setIfInBounds i true = l' := by (simp only [List.setIfInBounds_toArray, List.set_cons_zero, List.set_cons_succ]; rfl)) (hc : takeB md ops ds l l' i = true := by kernel_rfl)
    (hQ : ∀ c a w, Q (.panic c) (a.put oi.dst v) w → Q (.panic c) a w := by exact fun _ _ _ h => h) (hy : YieldsIf P ops S oi v a := by (refine Or.inl ⟨by rfl, ?_⟩; intro w' hs; (try simp only [] at hs); go_simp; with_reducible rfl))
    (ha : a.put N v = a' := by (simp only [Act.put, List.setIfInBounds_toArray, List.set_cons_zero, List.set_cons_succ, xy, xV]; rfl)) : zL P md ops Q S ds (fuel + 1) l a w :=
  take_ _ hi hN hc hQ hy hS ha h
theorem oq_ (i : Nat) (N : Option Tmp) (h : ∀ K : Act → World → Prop, Shut (∀ a' w', S w' → (S w' → zL P md ops Q S ds fuel l' a' w') → K a' w') → if Region.wanted oi (yielded ops a.tmps) = true then Oper.wp P oi a w K Q else K (a.put N undef) w)
    (hi : ops[i]? = some oi := by rfl) (hN : oi.dst = N := by rfl) (hl : l.setIfInBounds i true = l' := by (simp only [List.setIfInBounds_toArray, List.set_cons_zero, List.set_cons_succ]; rfl)) (hc : Zt md ops l l' i = true := by kernel_rfl) (hd : i ∉ ds := by decide) : zL P md ops Q S ds (fuel + 1) l a w :=
  zdw _ hi hN hc hd h
theorem sq_ {id : Nat} (l : Array Bool) (S : World → Prop) (hS : S w.drew) (h : S w.drew → zL P .any ops Q S ds ops.size l a w.drew) (hm : P.follows .mixedOrders = true := by kernel_rfl) (hl : Array.replicate ops.size false = l := by rfl) : (Code.region id ops true).wp P Q a w :=
  vv _ hm rfl hl hS h
theorem nq_ (h : zL P md ops Q S ds fuel l a' w) (ha : a = a' := by (simp only [Act.put, List.setIfInBounds_toArray, List.set_cons_zero, List.set_cons_succ, xy, xV]; rfl)) : zL P md ops Q S ds fuel l a w := kH ha h
end
end Go.Proofs.YtlalbohhopmpdaaGreat.Tiny
namespace Go.Proofs.YtlalbohhopmpdaaGreat.PTop
open Go.RowKit Go.YW.PrintWords Go.YW.PrintLast Go.YW.PrintMore
attribute [local go_sem] yN yO xu xw yP yR xm xq zk zo   -- for this text's walks alone
def xc.l0 : Nat → Int → List Int → Int → Int → Option (Int)
 | 0, _, _, _, _ => none
 | k + 1, x3, x6, x7, x8 => if x8 < x7 then (if 0 ≤ x8 then (if x8 < (x6.length : Int) then (if (rd x6 x8) = x3 then (xc.l0 k x3 x6 x7 (wrap64 (x8 + 1))) else (some (rd x6 x8))) else (none)) else (none)) else (some x3)
def xc.f (k : Nat) (l0 : List Int) : Option (Int) := xc.l0 k 0 l0 (l0.length : Int) 0
theorem xc.calls (k : Nat) (A0 : Option Addr) (c0 : Nat) (l0 : List Int) (r : Int) (w : World) (hr0 : Kd.C (Kd.int .i64) w A0 l0.length l0) (hc0 : l0.length ≤ c0) (h : xc.f k l0 = some r) :
  Calls Tryz.prog 257 #[.slice A0 l0.length c0] w fun e w' => e = .returned (.int .i64 r) ∧ zw w w' := by
 have HR0 := ze.mk hr0
 have HC0 := ze.mk hc0
 clear hr0 hc0
 have H : (xc.l0 k 0 l0 (l0.length : Int) 0) = some r := h
 clear h
 have H' := ze.mk H
 clear H
 go_enter Tryz.func257, Tryz.ntmps257
 go_wp2
 go_loopg [8] k (fun kq v8 w' => ∃ (x8_1 : Int), v8 = .int .i64 x8_1 ∧ ze (xc.l0 kq 0 l0 (l0.length : Int) x8_1 = some r) ∧ ze (kq ≤ k) ∧ zw w w')
 case atStart => exact ⟨(0), (by first | rfl | (simp; done) | (simp [*]; done)), H', ⟨Nat.le_refl _⟩, by repeat (first | exact zw.refl _ | apply zw.step)⟩
 case round =>
  clear H'
  obtain ⟨x8_1, rfl, HA, HK1, ⟨m1, rfl⟩⟩ := hrel
  cases gk with
  | zero => exact absurd HA.out (by simp [xc.l0])
  | succ k1 =>
   have H := HA.out
   clear HA
   simp only [xc.l0] at H
   by_cases c2 : x8_1 < (l0.length : Int)
   ·
    rw [if_pos c2] at H
    have c2b0 : decide (x8_1 < (l0.length : Int)) = true := dT c2
    clear c2
    by_cases c3 : 0 ≤ x8_1
    ·
     rw [if_pos c3] at H
     have c3b0 : decide (0 ≤ x8_1) = true := dT c3
     clear c3
     by_cases c4 : x8_1 < (l0.length : Int)
     ·
      rw [if_pos c4] at H
      have c4b0 : decide (x8_1 < (l0.length : Int)) = true := dT c4
      clear c4
      by_cases c5 : (rd l0 x8_1) = 0
      ·
       rw [if_pos c5] at H
       have c5b0 : ((rd l0 x8_1) == 0) = true := beq_iff_eq.mpr c5
       have c5b1 : ((rd l0 x8_1) != 0) = false := bne_eq_false_iff_eq.mpr c5
       clear c5
       have H' := ze.mk H
       clear H
       have p310 : 0 ≤ (x8_1 : Int) := of_decide_eq_true (by first | (with_reducible assumption) | assumption)
       have q310 : x8_1 < (l0.length : Int) := of_decide_eq_true (by first | (with_reducible assumption) | assumption)
       obtain ⟨ad310, e310, hx310_0⟩ := Kd.qH HR0.out x8_1 p310 q310
       cases e310
       replace p310 := eq_true p310
       replace q310 := eq_true q310
       go_wp2
       go_roundg k1
       case measure => have := HK1.out; omega
       case rel => exact ⟨(wrap64 (x8_1 + 1)), (by first | rfl | (simp; done) | (simp [*]; done)), H', ⟨by have := HK1.out; omega⟩, by repeat (first | exact zw.refl _ | apply zw.step)⟩
      ·
       rw [if_neg c5] at H
       have c5b0 : ((rd l0 x8_1) == 0) = false := beq_eq_false_iff_ne.mpr c5
       have c5b1 : ((rd l0 x8_1) != 0) = true := bne_iff_ne.mpr c5
       obtain rfl := Option.some.inj H
       have p310 : 0 ≤ (x8_1 : Int) := of_decide_eq_true (by first | (with_reducible assumption) | assumption)
       have q310 : x8_1 < (l0.length : Int) := of_decide_eq_true (by first | (with_reducible assumption) | assumption)
       obtain ⟨ad310, e310, hx310_0⟩ := Kd.qH HR0.out x8_1 p310 q310
       cases e310
       replace p310 := eq_true p310
       replace q310 := eq_true q310
       go_wp2
       go_ret
       exact ⟨by first | rfl | (simp; done) | (simp [*]; done), by repeat (first | exact zw.refl _ | apply zw.step)⟩
     ·
      rw [if_neg c4] at H
      exact absurd H (by simp)
    ·
     rw [if_neg c3] at H
     exact absurd H (by simp)
   ·
    rw [if_neg c2] at H
    have c2b0 : decide (x8_1 < (l0.length : Int)) = false := dF c2
    clear c2
    obtain rfl := Option.some.inj H
    go_wp2
    go_ret
    exact ⟨by first | rfl | (simp; done) | (simp [*]; done), by repeat (first | exact zw.refl _ | apply zw.step)⟩
def cmp_isNaN_int.f (a0 : Int) : Option (Bool) := some (a0 != a0)
theorem cmp_isNaN_int.calls (a0 : Int) (r : Bool) (w : World) (h : cmp_isNaN_int.f a0 = some r) :
  Calls Tryz.prog 222 #[.int .i64 a0] w fun e w' => e = .returned (.bool r) ∧ zw w w' := by
 have H : (some (a0 != a0)) = some r := h
 clear h
 obtain rfl := Option.some.inj H
 go_enter Tryz.func222, Tryz.ntmps222
 go_wp2
 go_ret
 exact ⟨by first | rfl | (simp; done) | (simp [*]; done), by repeat (first | exact zw.refl _ | apply zw.step)⟩
open Go.Proofs.YtlalbohhopmpdaaGreat.Tiny
def cmp_Compare_int.f (a0 : Int) (a1 : Int) : Option (Int) := (cmp_isNaN_int.f a0).bind fun t311 => ((cmp_isNaN_int.f a1).bind fun t312 => (if t311 = true then (if t312 = true then (some 0) else (some (-1))) else (if t312 = true then (some 1) else (if a0 < a1 then (some (-1)) else (if a0 > a1 then (some 1) else (some 0))))))
theorem cmp_Compare_int.calls (a0 : Int) (a1 : Int) (r : Int) (w : World) (h : cmp_Compare_int.f a0 a1 = some r) :
  Calls Tryz.prog 258 #[.int .i64 a0, .int .i64 a1] w fun e w' => e = .returned (.int .i64 r) ∧ zw w w' := by
 have H : ((cmp_isNaN_int.f a0).bind fun t311 => ((cmp_isNaN_int.f a1).bind fun t312 => (if t311 = true then (if t312 = true then (some 0) else (some (-1))) else (if t312 = true then (some 1) else (if a0 < a1 then (some (-1)) else (if a0 > a1 then (some 1) else (some 0))))))) = some r := h
 clear h
 replace H := Option.bind_eq_some_iff.mp H
 obtain ⟨t311, A30, H⟩ := H
 have A3 := ze.mk A30
 clear A30
 replace H := Option.bind_eq_some_iff.mp H
 obtain ⟨t312, A40, H⟩ := H
 have A4 := ze.mk A40
 clear A40
 by_cases c5 : t311 = true
 ·
  subst c5
  have H1 : (if t312 = true then (some 0) else (some (-1))) = some r := by rw [if_pos rfl] at H; exact H
  clear H
  have H := H1
  clear H1
  by_cases c6 : t312 = true
  ·
   subst c6
   have H1 : (some 0) = some r := by rw [if_pos rfl] at H; exact H
   clear H
   have H := H1
   clear H1
   obtain rfl := Option.some.inj H
   go_enter Tryz.func258, Tryz.ntmps258
   go_wp2_with (first | ((with_reducible refine zO (f := 222) rfl ?_); refine yL (some 8) rfl rfl Tryz.func222 (by kernel_rfl) rfl #[.int .i64 a0] rfl (by (try simp only [List.map_toArray, List.map_cons, List.map_nil]); first | done | rfl | (simp only [List.length_drop, List.length_take]; rfl)) ?_; (with_reducible refine (cmp_isNaN_int.calls a0 true _ A3.out).mono ?_); rintro e w' ⟨rfl, ⟨nd, rfl⟩⟩; refine ⟨_, rfl, ?_⟩) | ((with_reducible refine zO (f := 222) rfl ?_); refine yL (some 10) rfl rfl Tryz.func222 (by kernel_rfl) rfl #[.int .i64 a1] rfl (by (try simp only [List.map_toArray, List.map_cons, List.map_nil]); first | done | rfl | (simp only [List.length_drop, List.length_take]; rfl)) ?_; (with_reducible refine (cmp_isNaN_int.calls a1 true _ A4.out).mono ?_); rintro e w' ⟨rfl, ⟨nd, rfl⟩⟩; refine ⟨_, rfl, ?_⟩))
   go_ret
   exact ⟨by first | rfl | (simp; done) | (simp [*]; done), by repeat (first | exact zw.refl _ | apply zw.step)⟩
  ·
   replace c6 := Bool.eq_false_iff.mpr c6
   subst c6
   have H1 : (some (-1)) = some r := by rw [if_neg (show ¬ (false = true) by decide)] at H; exact H
   clear H
   have H := H1
   clear H1
   obtain rfl := Option.some.inj H
   go_enter Tryz.func258, Tryz.ntmps258
   go_wp2_with (first | ((with_reducible refine zO (f := 222) rfl ?_); refine yL (some 8) rfl rfl Tryz.func222 (by kernel_rfl) rfl #[.int .i64 a0] rfl (by (try simp only [List.map_toArray, List.map_cons, List.map_nil]); first | done | rfl | (simp only [List.length_drop, List.length_take]; rfl)) ?_; (with_reducible refine (cmp_isNaN_int.calls a0 true _ A3.out).mono ?_); rintro e w' ⟨rfl, ⟨nd, rfl⟩⟩; refine ⟨_, rfl, ?_⟩) | ((with_reducible refine zO (f := 222) rfl ?_); refine yL (some 10) rfl rfl Tryz.func222 (by kernel_rfl) rfl #[.int .i64 a1] rfl (by (try simp only [List.map_toArray, List.map_cons, List.map_nil]); first | done | rfl | (simp only [List.length_drop, List.length_take]; rfl)) ?_; (with_reducible refine (cmp_isNaN_int.calls a1 false _ A4.out).mono ?_); rintro e w' ⟨rfl, ⟨nd, rfl⟩⟩; refine ⟨_, rfl, ?_⟩))
   go_ret
   exact ⟨by first | rfl | (simp; done) | (simp [*]; done), by repeat (first | exact zw.refl _ | apply zw.step)⟩
 ·
  replace c5 := Bool.eq_false_iff.mpr c5
  subst c5
  have H1 : (if t312 = true then (some 1) else (if a0 < a1 then (some (-1)) else (if a0 > a1 then (some 1) else (some 0)))) = some r := by rw [if_neg (show ¬ (false = true) by decide)] at H; exact H
  clear H
  have H := H1
  clear H1
  by_cases c7 : t312 = true
  ·
   subst c7
   have H1 : (some 1) = some r := by rw [if_pos rfl] at H; exact H
   clear H
   have H := H1
   clear H1
   obtain rfl := Option.some.inj H
   go_enter Tryz.func258, Tryz.ntmps258
   go_wp2_with (first | ((with_reducible refine zO (f := 222) rfl ?_); refine yL (some 8) rfl rfl Tryz.func222 (by kernel_rfl) rfl #[.int .i64 a0] rfl (by (try simp only [List.map_toArray, List.map_cons, List.map_nil]); first | done | rfl | (simp only [List.length_drop, List.length_take]; rfl)) ?_; (with_reducible refine (cmp_isNaN_int.calls a0 false _ A3.out).mono ?_); rintro e w' ⟨rfl, ⟨nd, rfl⟩⟩; refine ⟨_, rfl, ?_⟩) | ((with_reducible refine zO (f := 222) rfl ?_); refine yL (some 10) rfl rfl Tryz.func222 (by kernel_rfl) rfl #[.int .i64 a1] rfl (by (try simp only [List.map_toArray, List.map_cons, List.map_nil]); first | done | rfl | (simp only [List.length_drop, List.length_take]; rfl)) ?_; (with_reducible refine (cmp_isNaN_int.calls a1 true _ A4.out).mono ?_); rintro e w' ⟨rfl, ⟨nd, rfl⟩⟩; refine ⟨_, rfl, ?_⟩))
   go_ret
   exact ⟨by first | rfl | (simp; done) | (simp [*]; done), by repeat (first | exact zw.refl _ | apply zw.step)⟩
  ·
   replace c7 := Bool.eq_false_iff.mpr c7
   subst c7
   have H1 : (if a0 < a1 then (some (-1)) else (if a0 > a1 then (some 1) else (some 0))) = some r := by rw [if_neg (show ¬ (false = true) by decide)] at H; exact H
   clear H
   have H := H1
   clear H1
   by_cases c8 : a0 < a1
   ·
    rw [if_pos c8] at H
    have c8b0 : decide (a0 < a1) = true := dT c8
    clear c8
    obtain rfl := Option.some.inj H
    go_enter Tryz.func258, Tryz.ntmps258
    go_wp2_with (first | ((with_reducible refine zO (f := 222) rfl ?_); refine yL (some 8) rfl rfl Tryz.func222 (by kernel_rfl) rfl #[.int .i64 a0] rfl (by (try simp only [List.map_toArray, List.map_cons, List.map_nil]); first | done | rfl | (simp only [List.length_drop, List.length_take]; rfl)) ?_; (with_reducible refine (cmp_isNaN_int.calls a0 false _ A3.out).mono ?_); rintro e w' ⟨rfl, ⟨nd, rfl⟩⟩; refine ⟨_, rfl, ?_⟩) | ((with_reducible refine zO (f := 222) rfl ?_); refine yL (some 10) rfl rfl Tryz.func222 (by kernel_rfl) rfl #[.int .i64 a1] rfl (by (try simp only [List.map_toArray, List.map_cons, List.map_nil]); first | done | rfl | (simp only [List.length_drop, List.length_take]; rfl)) ?_; (with_reducible refine (cmp_isNaN_int.calls a1 false _ A4.out).mono ?_); rintro e w' ⟨rfl, ⟨nd, rfl⟩⟩; refine ⟨_, rfl, ?_⟩))
    go_ret
    exact ⟨by first | rfl | (simp; done) | (simp [*]; done), by repeat (first | exact zw.refl _ | apply zw.step)⟩
   ·
    rw [if_neg c8] at H
    have c8b0 : decide (a0 < a1) = false := dF c8
    clear c8
    by_cases c9 : a0 > a1
    ·
     rw [if_pos c9] at H
     have c9b0 : decide (a1 < a0) = true := dT c9
     clear c9
     obtain rfl := Option.some.inj H
     go_enter Tryz.func258, Tryz.ntmps258
     go_wp2_with (first | ((with_reducible refine zO (f := 222) rfl ?_); refine yL (some 8) rfl rfl Tryz.func222 (by kernel_rfl) rfl #[.int .i64 a0] rfl (by (try simp only [List.map_toArray, List.map_cons, List.map_nil]); first | done | rfl | (simp only [List.length_drop, List.length_take]; rfl)) ?_; (with_reducible refine (cmp_isNaN_int.calls a0 false _ A3.out).mono ?_); rintro e w' ⟨rfl, ⟨nd, rfl⟩⟩; refine ⟨_, rfl, ?_⟩) | ((with_reducible refine zO (f := 222) rfl ?_); refine yL (some 10) rfl rfl Tryz.func222 (by kernel_rfl) rfl #[.int .i64 a1] rfl (by (try simp only [List.map_toArray, List.map_cons, List.map_nil]); first | done | rfl | (simp only [List.length_drop, List.length_take]; rfl)) ?_; (with_reducible refine (cmp_isNaN_int.calls a1 false _ A4.out).mono ?_); rintro e w' ⟨rfl, ⟨nd, rfl⟩⟩; refine ⟨_, rfl, ?_⟩))
     go_ret
     exact ⟨by first | rfl | (simp; done) | (simp [*]; done), by repeat (first | exact zw.refl _ | apply zw.step)⟩
    ·
     rw [if_neg c9] at H
     have c9b0 : decide (a1 < a0) = false := dF c9
     clear c9
     obtain rfl := Option.some.inj H
     go_enter Tryz.func258, Tryz.ntmps258
     go_wp2_with (first | ((with_reducible refine zO (f := 222) rfl ?_); refine yL (some 8) rfl rfl Tryz.func222 (by kernel_rfl) rfl #[.int .i64 a0] rfl (by (try simp only [List.map_toArray, List.map_cons, List.map_nil]); first | done | rfl | (simp only [List.length_drop, List.length_take]; rfl)) ?_; (with_reducible refine (cmp_isNaN_int.calls a0 false _ A3.out).mono ?_); rintro e w' ⟨rfl, ⟨nd, rfl⟩⟩; refine ⟨_, rfl, ?_⟩) | ((with_reducible refine zO (f := 222) rfl ?_); refine yL (some 10) rfl rfl Tryz.func222 (by kernel_rfl) rfl #[.int .i64 a1] rfl (by (try simp only [List.map_toArray, List.map_cons, List.map_nil]); first | done | rfl | (simp only [List.length_drop, List.length_take]; rfl)) ?_; (with_reducible refine (cmp_isNaN_int.calls a1 false _ A4.out).mono ?_); rintro e w' ⟨rfl, ⟨nd, rfl⟩⟩; refine ⟨_, rfl, ?_⟩))
     go_ret
     exact ⟨by first | rfl | (simp; done) | (simp [*]; done), by repeat (first | exact zw.refl _ | apply zw.step)⟩
def xB.f (k : Nat) (a0_0 : Int) (a0_1 : Int) (a1_0 : Int) (a1_1 : Int) : Option (Int) := (cmp_Compare_int.f a0_0 a1_0).bind fun t315 => ((cmp_Compare_int.f a0_1 a1_1).bind fun t316 => ((xc.f k (([t315, t316] : List Int))).bind fun t320 => (some t320)))
def xB.T1 : Bool × List (List Nat × List Nat) := (true, [([], []), ([0], [0]), ([], []), ([2], [2]), ([1, 3], [1, 3]), ([], []), ([5], [5]), ([], []), ([7], [7]), ([6, 8, 4], [6, 8]), ([4, 9], [4, 9]), ([10, 9], [10]), ([11, 11, 0, 1, 2, 3, 4, 5, 6, 7, 8, 9, 10, 11], [11])])
def xB.B1 : List Nat := [0, 1, 0, 4, 15, 0, 32, 0, 128, 511, 1023, 2047, 4095]
theorem xB.tab1 : jA .any (opsOf Tryz.f254 1) = xB.T1 := by kernel_rfl
theorem xB.bits1 : jo xB.T1.2 xB.B1 = true := by kernel_rfl
theorem xB.calls (k : Nat) (a0_0 : Int) (a0_1 : Int) (a1_0 : Int) (a1_1 : Int) (r : Int) (w : World) (h : xB.f k a0_0 a0_1 a1_0 a1_1 = some r) :
  Calls Tryz.prog 254 #[.agg #[.int .i64 a0_0, .int .i64 a0_1], .agg #[.int .i64 a1_0, .int .i64 a1_1]] w fun e w' => e = .returned (.int .i64 r) ∧ Below w.heap.size w w' := by
 have hu158 := Tryz.underlying158
 have HB := ze.mk (Below.refl w.heap.size w)
 have H : ((cmp_Compare_int.f a0_0 a1_0).bind fun t315 => ((cmp_Compare_int.f a0_1 a1_1).bind fun t316 => ((xc.f k (([t315, t316] : List Int))).bind fun t320 => (some t320)))) = some r := h
 clear h
 replace H := Option.bind_eq_some_iff.mp H
 obtain ⟨t315, A30, H⟩ := H
 have A3 := ze.mk A30
 clear A30
 replace H := Option.bind_eq_some_iff.mp H
 obtain ⟨t316, A40, H⟩ := H
 have A4 := ze.mk A40
 clear A40
 obtain ⟨y317, hy317⟩ : ∃ y_ : List Int, y_ = (([t315, t316] : List Int)) := ⟨_, rfl⟩
 replace H : ((xc.f k y317).bind fun t320 => (some t320)) = some r := by first | (rw [hy317]; with_reducible exact H) | (have H2_ := (Option.bind_some _ _).symm.trans H; rw [hy317]; with_reducible exact H2_) | (have H2_ := (Option.bind_some _ _).symm.trans H; with_reducible exact H2_) | with_reducible exact H | (rw [hy317]; exact H) | exact H
 have Ny317 := ze.mk hy317
 clear hy317
 replace H := Option.bind_eq_some_iff.mp H
 obtain ⟨t320, A50, H⟩ := H
 have A5 := ze.mk A50
 clear A50
 obtain rfl := Option.some.inj H
 go_enter Tryz.func254, Tryz.ntmps254
 try go_wp2_with (first | ((with_reducible refine zN (N := 2) rfl ?_); refine yf ?hg (N := 2) ?hd (cs := #[.int .i64 a0_0, .int .i64 a0_1]) (t := 158) ?hr ?_; (case hd => rfl); (case hg => rfl); (case hr => first | (go_simp; done) | (go_simp; rfl)); intro gb313 hg w6 hbox hb; have BK313 := ze.mk (hbox); have GW313 := ze.mk ((by rw [hg]; exact (zt (HB.out)) : w.heap.size ≤ gb313)); have GE313 := ze.mk ((by rw [hg]; exact (zt (HB.out)) : w.heap.size ≤ gb313)); replace HB := ze.mk (zG (HB.out) hb); clear hb hbox hg) | ((with_reducible refine zN (N := 3) rfl ?_); refine yf ?hg (N := 3) ?hd (cs := #[.int .i64 a1_0, .int .i64 a1_1]) (t := 158) ?hr ?_; (case hd => rfl); (case hg => rfl); (case hr => first | (go_simp; done) | (go_simp; rfl)); intro gb314 hg w7 hbox hb; have BK314 := ze.mk (hbox); have GW314 := ze.mk ((by rw [hg]; exact (zt (HB.out)) : w.heap.size ≤ gb314)); have GE314 := ze.mk ((by rw [hg]; exact (zt (HB.out)) : w.heap.size ≤ gb314)); replace HB := ze.mk (zG (HB.out) hb); have NB313_314 := ze.mk ((by rw [hg]; exact Nat.ne_of_lt (zF (g := gb313) (o := .cells #[.int .i64 a0_0, .int .i64 a0_1] 158 (0, 0)) (BK313.out)) : gb313 ≠ gb314)); have NB314_313 := ze.mk ((by rw [hg]; exact Nat.ne_of_gt (zF (g := gb313) (o := .cells #[.int .i64 a0_0, .int .i64 a0_1] 158 (0, 0)) (BK313.out)) : gb314 ≠ gb313)); replace BK313 := ze.mk (zb BK313.out hb); clear hb hbox hg))
 have n0_ := ze.mk (zn BK313.out)
 have n1_ := ze.mk (zn BK314.out)
 have n2_ := ze.mk (zI HB.out)
 clear BK313
 clear BK314
 clear HB
 have BK313 := n0_
 have BK314 := n1_
 have HB := n2_
 clear n0_ n1_ n2_
 refine vv (n := 13) (S := fun w' => w'.cell? ⟨gb313, 0, none⟩ = some (.int .i64 a0_0) ∧ w'.cell? ⟨gb313, 1, none⟩ = some (.int .i64 a0_1) ∧ w'.cell? ⟨gb314, 0, none⟩ = some (.int .i64 a1_0) ∧ w'.cell? ⟨gb314, 1, none⟩ = some (.int .i64 a1_1)) (ds := []) #[false,false,false,false,false,false,false,false,false,false,false,false,false] (by kernel_rfl) rfl rfl ⟨(za BK313.out 0).trans rfl, (za BK313.out 1).trans rfl, (za BK314.out 0).trans rfl, (za BK314.out 1).trans rfl⟩ (fun hHeld => ?_); refine jk xB.tab1 xB.bits1 (fun HT_ HW_ => ?_)
 generalize w7.drew = w8 at BK313 BK314 HB hHeld ⊢
 refine pq_ 0 (some 5) ?_ (hc := yo HT_.out (by kernel_rfl))
 refine pq_ 2 (some 7) ?_ (hc := yo HT_.out (by kernel_rfl))
 refine pq_ 5 (some 10) ?_ (hc := yo HT_.out (by kernel_rfl))
 refine pq_ 7 (some 12) ?_ (hc := yo HT_.out (by kernel_rfl))
 refine tq_ 1 (some 6) hHeld ?_ (hc := qd HT_.out HW_.out (by kernel_rfl))
 refine tq_ 3 (some 8) hHeld ?_ (hc := qd HT_.out HW_.out (by kernel_rfl))
 refine tq_ 6 (some 11) hHeld ?_ (hc := qd HT_.out HW_.out (by kernel_rfl))
 refine tq_ 8 (some 13) hHeld ?_ (hc := qd HT_.out HW_.out (by kernel_rfl))
 refine oq_ 4 (some 9) (fun K hK => ?_) (hc := jg HT_.out (by kernel_rfl))
 refine yh Tryz.func258 (by kernel_rfl) rfl #[.int .i64 a0_0, .int .i64 a1_0] (by rfl) rfl rfl (by (try simp only [List.map_toArray, List.map_cons, List.map_nil]); first | done | rfl | (simp only [List.length_drop, List.length_take]; rfl)) ?_
 with_reducible refine (cmp_Compare_int.calls a0_0 a1_0 t315 _ A3.out).mono ?_
 rintro e w' ⟨rfl, ⟨nd, rfl⟩⟩
 refine ⟨_, rfl, ?_⟩
 refine hK.out _ _ ⟨(za BK313.out 0).trans rfl, (za BK313.out 1).trans rfl, (za BK314.out 0).trans rfl, (za BK314.out 1).trans rfl⟩ (fun hHeld => ?_)
 clear hK K
 refine nq_ ?_
 refine oq_ 9 (some 14) (fun K hK => ?_) (hc := jg HT_.out (by kernel_rfl))
 refine yh Tryz.func258 (by kernel_rfl) rfl #[.int .i64 a0_1, .int .i64 a1_1] (by rfl) rfl rfl (by (try simp only [List.map_toArray, List.map_cons, List.map_nil]); first | done | rfl | (simp only [List.length_drop, List.length_take]; rfl)) ?_
 with_reducible refine (cmp_Compare_int.calls a0_1 a1_1 t316 _ A4.out).mono ?_
 rintro e w' ⟨rfl, ⟨nd, rfl⟩⟩
 refine ⟨_, rfl, ?_⟩
 refine hK.out _ _ ⟨(za BK313.out 0).trans rfl, (za BK313.out 1).trans rfl, (za BK314.out 0).trans rfl, (za BK314.out 1).trans rfl⟩ (fun hHeld => ?_)
 clear hK K
 refine nq_ ?_
 refine oq_ 10 (some 15) (fun K hK => ?_) (hc := jg HT_.out (by kernel_rfl))
 refine Kd.Vi (Kd.int .i64) _ 3 ?hg (N := 15) ?hd (xs := ([t315, t316] : List Int)) (inner := [.int .i64 t315, .int .i64 t316]) (ok := fun _ => True) (okp := fun _ => True) ?hr ?hp (fun _ hk => hk) trivial (Below.refl _ _) (Nat.le_refl _) (by simp) ?_; (case hd => rfl); (case hg => rfl); (case hr => first | (go_simp; done) | (go_simp; rfl)); (case hp => exact (yJ.one (show Kd.M (Kd.int .i64) _ _ _ t315 [.int .i64 t315] from rfl) (yJ.one (show Kd.M (Kd.int .i64) _ _ _ t316 [.int .i64 t316] from rfl) (yJ.none _ _))))
 intro v318 w9 ho10 hb hg_ hnew_
 clear hg_ hnew_
 (first | rw [← Ny317.out] at ho10 | (simp only [Int.reduceToNat] at ho10; rw [← Ny317.out] at ho10))
 have n0_ := ze.mk (Kd.zU ho10 (zt (by repeat (first | (with_reducible first | exact HB.out | apply zy | apply zq | apply zI | refine zM ?_ GE313.out | refine zM ?_ GE314.out) | exact HB.out))))
 have n1_ := ze.mk (zb (g := gb313) (o := .cells #[.int .i64 a0_0, .int .i64 a0_1] 158 (0, 0)) (by (with_reducible repeat (first | refine zm ?_ _ | refine zn ?_ | refine zg ?_ _)); exact BK313.out) hb)
 have n2_ := ze.mk (zb (g := gb314) (o := .cells #[.int .i64 a1_0, .int .i64 a1_1] 158 (0, 0)) (by (with_reducible repeat (first | refine zm ?_ _ | refine zn ?_ | refine zg ?_ _)); exact BK314.out) hb)
 have n3_ := ze.mk (zG (by repeat (first | (with_reducible first | exact HB.out | apply zy | apply zq | apply zI | refine zM ?_ GE313.out | refine zM ?_ GE314.out) | exact HB.out)) hb)
 clear BK313
 clear BK314
 clear HB
 have HO319 := n0_
 have BK313 := n1_
 have BK314 := n2_
 have HB := n3_
 clear n0_ n1_ n2_ n3_
 clear hb ho10
 obtain ⟨Ao11, co11, eo11⟩ := Kd.yc HO319.out
 (first | subst eo11 | (injection eo11 with f1_ f2_ f3_; have f4_ := f1_.symm; have f5_ := f3_.symm; clear f1_ f2_ f3_; subst f4_; subst f5_))
 refine hK.out _ _ ⟨(za BK313.out 0).trans rfl, (za BK313.out 1).trans rfl, (za BK314.out 0).trans rfl, (za BK314.out 1).trans rfl⟩ (fun hHeld => ?_)
 clear hK K
 refine nq_ ?_
 refine oq_ 11 (some 16) (fun K hK => ?_) (hc := jg HT_.out (by kernel_rfl))
 refine yh Tryz.func257 (by kernel_rfl) rfl #[.slice Ao11 y317.length co11] (by rfl) rfl rfl (by (try simp only [List.map_toArray, List.map_cons, List.map_nil]); first | done | rfl | (simp only [List.length_drop, List.length_take]; rfl)) ?_
 with_reducible refine (xc.calls k _ _ y317 t320 _ ?side1 ?side2 A5.out).mono ?_
 (case side1 => repeat (first | exact (Kd.zB HO319.out).2.2 | (with_reducible refine Kd.yC ?_ _) | (with_reducible refine Kd.yF ?_ _) | (with_reducible refine Kd.xe ?_)))
 (case side2 => exact (Kd.zB HO319.out).2.1)
 rintro e w' ⟨rfl, ⟨nd, rfl⟩⟩
 refine ⟨_, rfl, ?_⟩
 refine hK.out _ _ ⟨(za BK313.out 0).trans rfl, (za BK313.out 1).trans rfl, (za BK314.out 0).trans rfl, (za BK314.out 1).trans rfl⟩ (fun hHeld => ?_)
 clear hK K
 refine nq_ ?_
 refine pq_ 12 (some 4) ?_ (hc := yo HT_.out (by kernel_rfl))
 refine xJ (vk HT_.out (by kernel_rfl)) ?_
 try go_wp2
 go_ret
 exact ⟨by first | rfl | (simp [zC, zD] <;> rfl) | (simp [*, zC, zD] <;> rfl), by repeat (first | (with_reducible first | exact HB.out | apply zy | apply zq | apply zI | refine zM ?_ GE313.out | refine zM ?_ GE314.out) | exact HB.out)⟩
end Go.Proofs.YtlalbohhopmpdaaGreat.PTop
namespace Go.Proofs.YtlalbohhopmpdaaGreat.Top
open Go.Proofs.YtlalbohhopmpdaaGreat.Tiny
open Go.RowKit Go.Proofs.YtlalbohhopmpdaaGreat.PTop Go.YW.PrintWords Go.YW.PrintLast Go.YW.PrintMore Go.Proofs.YtlalbohhopmpdaaGreat.Num
attribute [local go_sem] zk zo
def Zb (a b : Int) : Int := if a < b then -1 else if a > b then 1 else 0
theorem Xf (a b : Int) : cmp_Compare_int.f a b = some (Zb a b) := by
  have h : ∀ z, cmp_isNaN_int.f z = some false := fun z => by unfold cmp_isNaN_int.f; simp
  unfold cmp_Compare_int.f Zb
  rw [h, h, Option.bind_some, Option.bind_some, if_neg (by decide), if_neg (by decide)]
  split
  · rfl
  · split <;> rfl
theorem Wm (a b : Int) : xB.f 9 2 a 2 b = some (Zb a b) := by
  unfold xB.f
  rw [Xf, Xf, Option.bind_some, Option.bind_some, show Zb 2 2 = 0 from by decide]
  have h1 : xc.f 9 [0, -1] = some (-1) := by decide +kernel
  have h2 : xc.f 9 [0, 1] = some 1 := by decide +kernel
  have h3 : xc.f 9 [0, 0] = some 0 := by decide +kernel
  unfold Zb
  split
  · rw [h1, Option.bind_some]
  · split
    · rw [h2, Option.bind_some]
    · rw [h3, Option.bind_some]
theorem Jq (w : World) (a v b : Int) :
    Calls Tryz.prog 253 #[.agg #[.int .i64 2, .int .i64 a, .int .u16 v], .agg #[.int .i64 2, .int .i64 b]] w fun e w' => e = .returned (.int .i64 (Zb a b)) ∧ Below w.heap.size w w' := by
  have hu158 := Tryz.underlying158
  have hu208 := Tryz.underlying208
  have HB0 := hQ (show Below w.heap.size w ((w.alloc (.cells #[.int .i64 2, .int .i64 a, .int .u16 v] 208)).alloc (.cells #[.int .i64 2, .int .i64 b] 158)) from ((Below.refl _ _).alloc (Nat.le_refl _) _).alloc (by simp) _)
  go_enter Tryz.func253, Tryz.ntmps253
  go_wp2_with (fail)
  refine (xB.calls 9 2 a 2 b (Zb a b) _ (Wm a b)).mono ?_
  rintro e w1 ⟨rfl, hb⟩
  have HB := hQ (zf HB0.out HB0.out.size hb)
  clear hb
  go_wp2
  exact bodyPost_ret (v := .int .i64 (Zb a b)) (by simp [results, Tryz.results253, go_sem]) rfl ⟨rfl, HB.out⟩
def adr (l : List yg) (i : Int) : Int := (qy l i).f0.f1
theorem QG {l : List yg} (h : qD l) (i : Int) (h0 : 0 ≤ i) (h1 : i < l.length) : (qy l i).f0.f0 = 2 := by
  obtain ⟨m, rfl⟩ := Int.eq_ofNat_of_zero_le h0
  rw [Zd l m (by omega)]
  exact (h.1 _ (List.getElem_mem _)).1
theorem zbl {l : List yg} (h : qD l) (i j : Int) (h0 : 0 ≤ i) (h1 : i < j) (h2 : j < l.length) : adr l i < adr l j := by
  obtain ⟨m, rfl⟩ := Int.eq_ofNat_of_zero_le h0
  obtain ⟨n, rfl⟩ := Int.eq_ofNat_of_zero_le (show 0 ≤ j by omega)
  unfold adr
  rw [Zd l m (by omega), Zd l n (by omega)]
  exact List.pairwise_iff_getElem.1 h.2 m n (by omega) (by omega) (by omega)
def AtP (l : List yg) (a : Int) (i j : Int) : Prop := (∀ m, 0 ≤ m → m < i → adr l m < a) ∧ ∀ m, j ≤ m → m < l.length → a ≤ adr l m
theorem zc7 {P : Program} {ops : Array Oper} {Q : Exit → Act → World → Prop} {oi : Oper} {N : Option Tmp} {a : Act} {w : World} {K : Act → World → Prop} {f : FuncId} {fn : Func} {o : Operand} {as_ : Array Operand} {ts : Array TypeId} (hf : P.funcs[f]? = some fn) (hname : (fn.name == "runtime.NumGoroutine") = false) (hb : fn.body.isSome = true) (args : Array Value)
    (hw : Region.wanted oi (yielded ops a.tmps) = true) (hN : oi.dst = N) (hop : oi.op = .call { callee := .value o, args := as_, argTypes := ts }) (ho : a.eval o = .func (.func f) #[] #[]) (hargs : as_.map a.eval = args)
    (h : Calls P f args w fun e w' => ∃ v, e = .returned v ∧ K (a.put N v) w') : if Region.wanted oi (yielded ops a.tmps) = true then Oper.wp P oi a w K Q else K (a.put N undef) w := by
  refine call_ f args hw hN ?_ h
  have he := QH hf hname hb args w
  unfold execOp
  simp [hop, resolve, Deferred.ofValue, invoke, ho, hargs, he]
def zdf (l : List yg) (j a : Int) (ad : Addr) (b : Nat) (w : World) : Prop :=
  w.cell? (ad.add (j.toNat * 3)) = some (.int .i64 2) ∧ w.cell? ⟨(ad.add (j.toNat * 3)).block, (ad.add (j.toNat * 3)).off + 1, none⟩ = some (.int .i64 (adr l j)) ∧ w.cell? ⟨(ad.add (j.toNat * 3)).block, (ad.add (j.toNat * 3)).off + 2, none⟩ = some (.int .u16 (qy l j).f1) ∧ w.cell? ⟨b, 0, none⟩ = some (.int .i64 2) ∧ w.cell? ⟨b, 1, none⟩ = some (.int .i64 a)
theorem cell_below {w w1 : World} {p : Addr} {v : Value} (h : w.cell? p = some v) (hb : Below w.heap.size w w1) : w1.cell? p = some v := by
  have hlt := World.block_lt_of_cell? _ _ h
  have e := hb.block p.block hlt
  unfold World.cell? at h ⊢
  rw [e]
  exact h
theorem YZ {l : List yg} {j a : Int} {ad : Addr} {b : Nat} {w w1 : World} (h : zdf l j a ad b w) (hb : Below w.heap.size w w1) : zdf l j a ad b w1 :=
  ⟨cell_below h.1 hb, cell_below h.2.1 hb, cell_below h.2.2.1 hb, cell_below h.2.2.2.1 hb, cell_below h.2.2.2.2 hb⟩
theorem Jw (w : World) (A : Option Addr) (c : Nat) (l : List yg) (a : Int) (hC : Kd.C xL w A l.length l) (ho : qD l) (hl : l.length ≤ 1000) :
    Calls Tryz.prog 252 #[.slice A l.length c, .agg #[.int .i64 2, .int .i64 a], .func (.func 253) #[] #[]] w fun e w' => ∃ i : Int, (0 ≤ i ∧ i ≤ l.length) ∧ AtP l a i i ∧ e = .returned (.tuple #[.int .i64 i, .bool (decide (i < l.length ∧ adr l i = a))]) ∧ Below w.heap.size w w' := by
  have hu155 := Tryz.underlying155
  have hu158 := Tryz.underlying158
  have hu208 := Tryz.underlying208
  have hb0 : Below w.heap.size w (w.alloc (.cells #[.int .i64 2, .int .i64 a] 158)) := (Below.refl _ _).alloc (Nat.le_refl _) _
  have B0 := hQ hb0
  have X0 := hQ (zi w (.cells #[.int .i64 2, .int .i64 a] 158 (0, 0)))
  have HC := hQ hC
  have HO := hQ ho
  have HL := hQ hl
  clear hb0 hC ho hl
  go_enter Tryz.func252, Tryz.ntmps252
  go_wp2_with (fail)
  go_loopg [9, 10] l.length (fun g_ v9 v10 wx => ∃ i j : Int, 0 ≤ i ∧ i ≤ j ∧ j ≤ (l.length : Int) ∧ (g_ : Int) = j - i ∧ v9 = .int .i64 i ∧ v10 = .int .i64 j ∧ ze (AtP l a i j) ∧ ze (Below w.heap.size w wx) ∧ ze (wx.heap[w.heap.size]? = some (.cells #[.int .i64 2, .int .i64 a] 158 (0, 0))))
  case atStart => exact ⟨0, l.length, by omega, by omega, by omega, by omega, rfl, rfl, ⟨fun m h1 h2 => by omega, fun m h1 h2 => by omega⟩, ⟨B0.out⟩, ⟨X0.out⟩⟩
  case round =>
    obtain ⟨i, j, hi0, hij, hj, hg, rfl, rfl, HP, HB, HX⟩ := hrel
    by_cases he : i < j
    · have hd : decide (i < j) = true := dT he
      obtain ⟨h, hh⟩ : ∃ h, h = (i + j) / 2 := ⟨_, rfl⟩
      have hll := HL.out
      have hw : wrap64 (IntKind.u64.wrap (wrap64 (i + j)) / 2) = h := by
        rw [zu (x := i + j) (by omega) (by omega), show IntKind.u64.wrap (i + j) = i + j from by show (i + j) % 18446744073709551616 = i + j; omega, ← hh, zu (by omega) (by omega)]
      have hw1 : wrap64 (h + 1) = h + 1 := zu (by omega) (by omega)
      have HH := hQ (show i ≤ h ∧ h < j by omega)
      obtain ⟨ad, e, hx0, hx1, hx2⟩ := kz (Kd.zx HC.out HB.out) h (by omega) (by omega)
      cases e
      rw [QG HO.out h (by omega) (by omega)] at hx0
      have hx1' : wr.cell? ⟨(ad.add (h.toNat * 3)).block, (ad.add (h.toNat * 3)).off + 1, none⟩ = some (.int .i64 (adr l h)) := hx1
      clear hx1
      have p0 : (0 ≤ h) = True := eq_true (by omega)
      have q0 : (h < (l.length : Int)) = True := eq_true (by omega)
      have k0 : wr.cell? ⟨w.heap.size, 0, none⟩ = some (.int .i64 2) := za HX.out 0
      have k1 : wr.cell? ⟨w.heap.size, 1, none⟩ = some (.int .i64 a) := za HX.out 1
      have hE := hQ he
      have HG := hQ hg
      have HI := hQ hi0
      have HIJ := hQ hj
      clear he hh hll hg hi0 hij hj
      go_wp2_with (fail)
      go_region_law (first | (go_simp; go_at_call 253; refine (Jq _ (adr l h) _ a).mono ?_; rintro e w2 ⟨rfl, hb⟩; have HX2 := hQ (zb HX.out (show Below wr.heap.size wr w2 from Below.trans (zl (Below.refl _ _)) hb)); have HB2 := hQ (zf HB.out HB.out.size (show Below wr.heap.size wr w2 from Below.trans (zl (Below.refl _ _)) hb)); clear hb))
      all_goals
        have hgx := HG.out
        have hhx := HH.out
        have hix := HI.out
        have hjx := HIJ.out
        by_cases hlt : adr l h < a
        · have hcm : decide (Zb (adr l h) a < 0) = true := decide_eq_true (by unfold Zb; rw [if_pos hlt]; decide)
          have hcp : (Zb (adr l h) a < 0) = True := eq_true (of_decide_eq_true hcm)
          have HLT := hQ hlt
          clear hlt
          rw [hcm]
          go_wp2
          go_roundg (j - (h + 1)).toNat
          case measure => omega
          case rel => exact ⟨h + 1, j, by omega, by omega, by omega, by omega, by first | rfl | (rw [hw1]), rfl, ⟨fun m h1 h2 => by
            have hlt := HLT.out
            by_cases e : m = h
            · rw [e]; exact hlt
            · exact Int.lt_trans (zbl HO.out m h h1 (by omega) (by omega)) hlt, HP.out.2⟩, ⟨HB2.out⟩, ⟨HX2.out⟩⟩
        · have hcm : decide (Zb (adr l h) a < 0) = false := decide_eq_false (by unfold Zb; rw [if_neg hlt]; split <;> decide)
          have hcp : (Zb (adr l h) a < 0) = False := eq_false (of_decide_eq_false hcm)
          have HLT := hQ hlt
          clear hlt
          rw [hcm]
          go_wp2
          go_roundg (h - i).toNat
          case measure => omega
          case rel => exact ⟨i, h, by omega, by omega, by omega, by omega, rfl, rfl, ⟨HP.out.1, fun m h1 h2 => by
            have hlt := HLT.out
            by_cases e : m = h
            · rw [e]; omega
            · have := zbl HO.out h m (by omega) (by omega) h2; omega⟩, ⟨HB2.out⟩, ⟨HX2.out⟩⟩
    · have hd : decide (i < j) = false := dF he
      obtain rfl : j = i := by omega
      have HP2 := hQ HP.out
      have HR := hQ (show 0 ≤ j ∧ j ≤ (l.length : Int) from ⟨hi0, hj⟩)
      have k0 : wr.cell? ⟨w.heap.size, 0, none⟩ = some (.int .i64 2) := za HX.out 0
      have k1 : wr.cell? ⟨w.heap.size, 1, none⟩ = some (.int .i64 a) := za HX.out 1
      clear he hij hg
      by_cases hn : j < (l.length : Int)
      · have hd2 : decide (j < (l.length : Int)) = true := dT hn
        obtain ⟨ad, e, hx0, hx1, hx2⟩ := kz (Kd.zx HC.out HB.out) j (by omega) (by omega)
        cases e
        rw [QG HO.out j (by omega) (by omega)] at hx0
        have hx1' : wr.cell? ⟨(ad.add (j.toNat * 3)).block, (ad.add (j.toNat * 3)).off + 1, none⟩ = some (.int .i64 (adr l j)) := hx1
        clear hx1
        have p0 : (0 ≤ j) = True := eq_true (by omega)
        have q0 : (j < (l.length : Int)) = True := eq_true (by omega)
        have HN := hQ hn
        have hcm : (Zb (adr l j) a == 0) = decide (adr l j = a) := by
          unfold Zb
          split
          · rw [decide_eq_false (by omega)]; rfl
          · split
            · rw [decide_eq_false (by omega)]; rfl
            · rw [decide_eq_true (by omega)]; rfl
        clear hn hi0 hj
        have hb1 : Below wr.heap.size wr wr.drew := zl (Below.refl _ _)
        have F1 := hQ (YZ (show zdf l j a ad w.heap.size wr from ⟨hx0, hx1', hx2, k0, k1⟩) hb1)
        clear hb1
        go_wp2_with (fail)
        --WALK
        refine sq_ (ds := []) #[false, false, false, false, false, false, false, false, false, false, false, false, false, false, false, false] (fun w' => w'.cell? (ad.add (j.toNat * 3)) = some (.int .i64 2) ∧ w'.cell? ⟨(ad.add (j.toNat * 3)).block, (ad.add (j.toNat * 3)).off + 1, none⟩ = some (.int .i64 (adr l j)) ∧ w'.cell? ⟨(ad.add (j.toNat * 3)).block, (ad.add (j.toNat * 3)).off + 2, none⟩ = some (.int .u16 (qy l j).f1) ∧ w'.cell? ⟨w.heap.size, 0, none⟩ = some (.int .i64 2) ∧ w'.cell? ⟨w.heap.size, 1, none⟩ = some (.int .i64 a)) ⟨F1.out.1, F1.out.2.1, F1.out.2.2.1, F1.out.2.2.2.1, F1.out.2.2.2.2⟩ (fun hHeld => ?_)
        refine pq_ 0 (some 35) ?_
        refine pq_ 1 (some 36) ?_
        refine pq_ 2 (some 37) ?_
        refine pq_ 3 (some 38) ?_
        refine pq_ 4 (some 39) ?_
        refine pq_ 5 (some 40) ?_
        refine pq_ 6 (some 41) ?_
        refine pq_ 7 (some 42) ?_
        refine pq_ 8 (some 43) ?_
        refine tq_ 9 (some 44) hHeld ?_
        refine tq_ 10 (some 45) hHeld ?_
        refine oq_ 11 (some 46) (fun K hK => ?_)
        refine zc7 Tryz.func253 (by kernel_rfl) rfl #[.agg #[.int .i64 2, .int .i64 (adr l j), .int .u16 (qy l j).f1], .agg #[.int .i64 2, .int .i64 a]] (by rfl) rfl rfl (by rfl) (by (try simp only [List.map_toArray, List.map_cons, List.map_nil]); first | done | rfl) ?_
        refine (Jq _ (adr l j) _ a).mono ?_
        rintro e w5 ⟨rfl, hb⟩
        refine ⟨_, rfl, ?_⟩
        have B5 := hQ (zf HB.out HB.out.size (show Below wr.heap.size wr w5 from Below.trans (zl (Below.refl _ _)) hb))
        have F5 := hQ (YZ F1.out hb)
        clear hb
        refine hK.out _ _ ⟨F5.out.1, F5.out.2.1, F5.out.2.2.1, F5.out.2.2.2.1, F5.out.2.2.2.2⟩ (fun hHeld => ?_)
        clear hK K
        refine nq_ ?_
        refine pq_ 12 (some 47) ?_
        refine pq_ 13 (some 48) ?_
        refine pq_ 14 (some 6) ?_
        refine pq_ 15 (some 7) ?_
        refine xJ (by kernel_rfl) ?_
        --END
        go_wp2
        have HD := hQ (show decide (j < (l.length : Int) ∧ adr l j = a) = decide (adr l j = a) by
          have hn := HN.out
          by_cases e : adr l j = a
          · rw [dT e, decide_eq_true ⟨hn, e⟩]
          · rw [dF e, decide_eq_false (fun h => e h.2)])
        exact bodyPost_ret (v := .tuple #[.int .i64 j, .bool (decide (adr l j = a))]) (by simp [results, Tryz.results252, go_sem]) rfl ⟨j, HR.out, HP2.out, by rw [HD.out], B5.out⟩
      · have hd2 : decide (j < (l.length : Int)) = false := dF hn
        have HN := hQ hn
        clear hn hi0 hj
        go_wp2_with (fail)
        go_region
        have HD := hQ (show decide (j < (l.length : Int) ∧ adr l j = a) = false from decide_eq_false (fun h => by have := HN.out; omega))
        go_wp2
        exact bodyPost_ret (v := .tuple #[.int .i64 j, .bool false]) (by simp [results, Tryz.results252, go_sem]) rfl ⟨j, HR.out, HP2.out, by rw [HD.out], by first | exact HB.out.trans (zl (Below.refl _ _)) | exact zq HB.out _⟩
theorem WX (w : World) (A : Option Addr) (c : Nat) (l : List yg) (a : Int) (hC : Kd.C xL w A l.length l) (ho : qD l) (hl : l.length ≤ 1000) :
    Calls Tryz.prog 244 #[.slice A l.length c, .agg #[.int .i64 2, .int .i64 a]] w fun e w' => ∃ i : Int, (0 ≤ i ∧ i ≤ l.length) ∧ AtP l a i i ∧ e = .returned (.tuple #[.int .i64 i, .bool (decide (i < l.length ∧ adr l i = a))]) ∧ Below w.heap.size w w' := by
  have hu155 := Tryz.underlying155
  have hu158 := Tryz.underlying158
  have hu208 := Tryz.underlying208
  have hb0 : Below w.heap.size w (w.alloc (.cells #[.int .i64 2, .int .i64 a] 158)) := (Below.refl _ _).alloc (Nat.le_refl _) _
  have B0 := hQ hb0
  have X0 := hQ (zi w (.cells #[.int .i64 2, .int .i64 a] 158 (0, 0)))
  have C0 := hQ (Kd.zx hC hb0)
  have HO := hQ ho
  have HL := hQ hl
  clear hb0 hC ho hl
  go_enter Tryz.func244, Tryz.ntmps244
  go_wp2_with (fail)
  refine (Jw _ A c l a C0.out HO.out HL.out).mono ?_
  rintro e w1 ⟨j, hj, hP, rfl, hb⟩
  have HR := hQ hj
  have HP2 := hQ hP
  have HB := hQ (zf B0.out B0.out.size hb)
  have HX := hQ (zb X0.out hb)
  have HC := hQ (Kd.zx C0.out hb)
  have k0 : w1.cell? ⟨w.heap.size, 0, none⟩ = some (.int .i64 2) := za HX.out 0
  have k1 : w1.cell? ⟨w.heap.size, 1, none⟩ = some (.int .i64 a) := za HX.out 1
  clear hb hj hP
  by_cases hn : j < (l.length : Int)
  · have hd2 : decide (j < (l.length : Int)) = true := dT hn
    have hj := HR.out
    obtain ⟨ad, e, hx0, hx1, hx2⟩ := kz HC.out j (by omega) (by omega)
    cases e
    rw [QG HO.out j (by omega) (by omega)] at hx0
    have hx1' : w1.cell? ⟨(ad.add (j.toNat * 3)).block, (ad.add (j.toNat * 3)).off + 1, none⟩ = some (.int .i64 (adr l j)) := hx1
    clear hx1
    have p0 : (0 ≤ j) = True := eq_true (by omega)
    have q0 : (j < (l.length : Int)) = True := eq_true (by omega)
    by_cases he : adr l j = a
    · have HD := hQ (show decide (j < (l.length : Int) ∧ adr l j = a) = true from decide_eq_true ⟨hn, he⟩)
      have he0 : (adr l j = a) = True := eq_true he
      clear hn hj he
      go_wp2_with (fail)
      go_region
      go_wp2
      exact bodyPost_ret (v := .tuple #[.int .i64 j, .bool true]) (by simp [results, Tryz.results244, go_sem]) rfl ⟨j, HR.out, HP2.out, by rw [HD.out], by first | exact HB.out.trans (zl (Below.refl _ _)) | exact zq HB.out _⟩
    · have HD := hQ (show decide (j < (l.length : Int) ∧ adr l j = a) = false from decide_eq_false (fun h => he h.2))
      have he0 : (adr l j = a) = False := eq_false he
      clear hn hj he
      go_wp2_with (fail)
      go_region
      go_wp2
      exact bodyPost_ret (v := .tuple #[.int .i64 j, .bool false]) (by simp [results, Tryz.results244, go_sem]) rfl ⟨j, HR.out, HP2.out, by rw [HD.out], by first | exact HB.out.trans (zl (Below.refl _ _)) | exact zq HB.out _⟩
  · have hd2 : decide (j < (l.length : Int)) = false := dF hn
    have HD := hQ (show decide (j < (l.length : Int) ∧ adr l j = a) = false from decide_eq_false (fun h => hn h.1))
    clear hn
    go_wp2_with (fail)
    go_region
    go_wp2
    exact bodyPost_ret (v := .tuple #[.int .i64 j, .bool false]) (by simp [results, Tryz.results244, go_sem]) rfl ⟨j, HR.out, HP2.out, by rw [HD.out], by first | exact HB.out.trans (zl (Below.refl _ _)) | exact zq HB.out _⟩
end Go.Proofs.YtlalbohhopmpdaaGreat.Top
namespace Go.Proofs.YtlalbohhopmpdaaGreat.PTop
open Go.RowKit Go.YW.PrintWords Go.YW.PrintLast Go.YW.PrintMore
attribute [local go_sem] yN yO xu xw yP yR xm xq zk zo   -- for this text's walks alone
def xQ.f (a0_0 : Int) (a0_1 : Int) (a0_2 : Int) : Option (Int × Int × Int) := some (mn (mx a0_0 0) 65535, mn (mx a0_1 2) 254, mn (mx a0_2 0) 255)
theorem xQ.calls (a0_0 : Int) (a0_1 : Int) (a0_2 : Int) (r1 : Int) (r2 : Int) (r3 : Int) (w : World) (h : xQ.f a0_0 a0_1 a0_2 = some (r1, r2, r3)) :
  Calls Tryz.prog 149 #[.agg #[.int .i64 a0_0, .int .i64 a0_1, .int .i64 a0_2]] w fun e w' => e = .returned (.agg #[.int .i64 r1, .int .i64 r2, .int .i64 r3]) ∧ Below w.heap.size w w' := by
 have hu201 := Tryz.underlying201
 have HB := ze.mk (Below.refl w.heap.size w)
 have H : (some (mn (mx a0_0 0) 65535, mn (mx a0_1 2) 254, mn (mx a0_2 0) 255)) = some (r1, r2, r3) := h
 clear h
 obtain ⟨ji2, hji2⟩ : ∃ j_ : Int, (mx a0_0 0) = j_ := ⟨_, rfl⟩
 replace H : (some (mn (ji2) 65535, mn (mx a0_1 2) 254, mn (mx a0_2 0) 255)) = some (r1, r2, r3) := by first | (rw [hji2] at H; exact H) | (simp only [hji2] at H ⊢; exact H)
 (try (have hji2l : 0 ≤ ji2 := by (rw [← hji2]; unfold mx; (repeat' split) <;> omega)))
 (try (have hji2m : 0 ≤ ji2 := by omega))
 have hji2_ : (if a0_0 < 0 then 0 else a0_0) = ji2 := hji2
 obtain ⟨ji3, hji3⟩ : ∃ j_ : Int, (mn (ji2) 65535) = j_ := ⟨_, rfl⟩
 replace H : (some (ji3, mn (mx a0_1 2) 254, mn (mx a0_2 0) 255)) = some (r1, r2, r3) := by first | (rw [hji3] at H; exact H) | (simp only [hji3] at H ⊢; exact H)
 have hji3_ : (if 65535 < (ji2) then 65535 else (ji2)) = ji3 := hji3
 obtain ⟨ji4, hji4⟩ : ∃ j_ : Int, (mx a0_1 2) = j_ := ⟨_, rfl⟩
 replace H : (some (ji3, mn (ji4) 254, mn (mx a0_2 0) 255)) = some (r1, r2, r3) := by first | (rw [hji4] at H; exact H) | (simp only [hji4] at H ⊢; exact H)
 (try (have hji4l : 2 ≤ ji4 := by (rw [← hji4]; unfold mx; (repeat' split) <;> omega)))
 (try (have hji4m : 0 ≤ ji4 := by omega))
 have hji4_ : (if a0_1 < 2 then 2 else a0_1) = ji4 := hji4
 obtain ⟨ji5, hji5⟩ : ∃ j_ : Int, (mn (ji4) 254) = j_ := ⟨_, rfl⟩
 replace H : (some (ji3, ji5, mn (mx a0_2 0) 255)) = some (r1, r2, r3) := by first | (rw [hji5] at H; exact H) | (simp only [hji5] at H ⊢; exact H)
 have hji5_ : (if 254 < (ji4) then 254 else (ji4)) = ji5 := hji5
 obtain ⟨ji6, hji6⟩ : ∃ j_ : Int, (mx a0_2 0) = j_ := ⟨_, rfl⟩
 replace H : (some (ji3, ji5, mn (ji6) 255)) = some (r1, r2, r3) := by first | (rw [hji6] at H; exact H) | (simp only [hji6] at H ⊢; exact H)
 (try (have hji6l : 0 ≤ ji6 := by (rw [← hji6]; unfold mx; (repeat' split) <;> omega)))
 (try (have hji6m : 0 ≤ ji6 := by omega))
 have hji6_ : (if a0_2 < 0 then 0 else a0_2) = ji6 := hji6
 obtain ⟨ji7, hji7⟩ : ∃ j_ : Int, (mn (ji6) 255) = j_ := ⟨_, rfl⟩
 replace H : (some (ji3, ji5, ji7)) = some (r1, r2, r3) := by first | (rw [hji7] at H; exact H) | (simp only [hji7] at H ⊢; exact H)
 have hji7_ : (if 255 < (ji6) then 255 else (ji6)) = ji7 := hji7
 simp only [Option.some.injEq, Prod.mk.injEq] at H
 obtain ⟨rfl, rfl, rfl⟩ := H
 go_enter Tryz.func149, Tryz.ntmps149
 go_wp2_with (first | ((with_reducible refine zN (N := 1) rfl ?_); refine yf ?hg (N := 1) ?hd (cs := #[.int .i64 a0_0, .int .i64 a0_1, .int .i64 a0_2]) (t := 201) ?hr ?_; (case hd => rfl); (case hg => rfl); (case hr => first | (go_simp; done) | (go_simp; rfl)); intro gb173 hg w8 hbox hb; have BK173 := ze.mk (hbox); have GW173 := ze.mk ((by rw [hg]; exact (zt (HB.out)) : w.heap.size ≤ gb173)); have GE173 := ze.mk ((by rw [hg]; exact (zt (HB.out)) : w.heap.size ≤ gb173)); replace HB := ze.mk (zG (HB.out) hb); clear hb hbox hg) | ((with_reducible refine zN (N := 2) rfl ?_); refine yf ?hg (N := 2) ?hd (cs := #[.int .i64 0, .int .i64 0, .int .i64 0]) (t := 201) ?hr ?_; (case hd => rfl); (case hg => rfl); (case hr => first | (go_simp; done) | (go_simp; rfl)); intro gb174 hg w9 hbox hb; have BK174 := ze.mk (hbox); have GW174 := ze.mk ((by rw [hg]; exact (zt (HB.out)) : w.heap.size ≤ gb174)); have GE174 := ze.mk ((by rw [hg]; exact (zt (HB.out)) : w.heap.size ≤ gb174)); replace HB := ze.mk (zG (HB.out) hb); have NB173_174 := ze.mk ((by rw [hg]; exact Nat.ne_of_lt (zF (g := gb173) (o := .cells #[.int .i64 a0_0, .int .i64 a0_1, .int .i64 a0_2] 201 (0, 0)) (BK173.out)) : gb173 ≠ gb174)); have NB174_173 := ze.mk ((by rw [hg]; exact Nat.ne_of_gt (zF (g := gb173) (o := .cells #[.int .i64 a0_0, .int .i64 a0_1, .int .i64 a0_2] 201 (0, 0)) (BK173.out)) : gb174 ≠ gb173)); replace BK173 := ze.mk (zb BK173.out hb); clear hb hbox hg; have hnb10 := NB173_174.out; have hnc10 := NB174_173.out; obtain ⟨hcz11_0, hcz11_1, hcz11_2⟩ := zS BK173.out; obtain ⟨hfz11_0, hfz11_1, hfz11_2⟩ := xD BK173.out; obtain ⟨hcz12_0, hcz12_1, hcz12_2⟩ := zS BK174.out; obtain ⟨hfz12_0, hfz12_1, hfz12_2⟩ := xD BK174.out))
 refine bodyPost_ret (results_cell_row rfl _ _ gb174 201 #[.int .i64 ji3, .int .i64 ji5, .int .i64 ji7] (0, 0) _ rfl (by (with_reducible repeat (first | refine zm ?_ _ | refine zn ?_ | refine zg ?_ _)); refine zQ (cs := #[.int .i64 ji3, .int .i64 ji5, .int .i64 0]) ?_ 2 _ rfl; (with_reducible repeat (first | refine zm ?_ _ | refine zn ?_ | refine zg ?_ _)); refine zQ (cs := #[.int .i64 ji3, .int .i64 0, .int .i64 0]) ?_ 1 _ rfl; (with_reducible repeat (first | refine zm ?_ _ | refine zn ?_ | refine zg ?_ _)); refine zQ (cs := #[.int .i64 0, .int .i64 0, .int .i64 0]) ?_ 0 _ rfl; (with_reducible repeat (first | refine zm ?_ _ | refine zn ?_ | refine zg ?_ _)); exact BK174.out) Tryz.underlying201 rfl (by kernel_rfl)) rfl ?_
 exact ⟨by first | rfl | (simp [zC, zD] <;> rfl) | (simp only [← hji2, ← hji3, ← hji4, ← hji5, ← hji6, ← hji7]; first | rfl | (simp [zC, zD] <;> rfl)) | (simp [*, zC, zD] <;> rfl), by repeat (first | (with_reducible first | exact HB.out | apply zy | apply zq | apply zI | refine zM ?_ GE173.out | refine zM ?_ GE174.out) | exact HB.out)⟩
def yZ.f (l0 : List Int) (a1 : Int) : Option (Int × Bool) := if a1 < 0 then (some (0, false)) else (if (wrap64 ((l0.length : Int) - a1)) < 2 then (some (0, false)) else (if 0 ≤ a1 then (if a1 < (l0.length : Int) then (if 0 ≤ (wrap64 (a1 + 1)) then (if (wrap64 (a1 + 1)) < (l0.length : Int) then (some (Go.bits .or .u16 (IntKind.u16.wrap ((IntKind.u16.wrap (rd l0 a1)) * 256)) (IntKind.u16.wrap (rd l0 (wrap64 (a1 + 1)))), true)) else (none)) else (none)) else (none)) else (none)))
theorem yZ.calls (A0 : Option Addr) (c0 : Nat) (l0 : List Int) (a1 : Int) (r1 : Int) (r2 : Bool) (w : World) (hr0 : Kd.C (Kd.int .u8) w A0 l0.length l0) (hc0 : l0.length ≤ c0) (h : yZ.f l0 a1 = some (r1, r2)) :
  Calls Tryz.prog 202 #[.slice A0 l0.length c0, .int .i64 a1] w fun e w' => e = .returned (.tuple #[.int .u16 r1, .bool r2]) ∧ zw w w' := by
 have HR0 := ze.mk hr0
 have HC0 := ze.mk hc0
 clear hr0 hc0
 have H : (if a1 < 0 then (some (0, false)) else (if (wrap64 ((l0.length : Int) - a1)) < 2 then (some (0, false)) else (if 0 ≤ a1 then (if a1 < (l0.length : Int) then (if 0 ≤ (wrap64 (a1 + 1)) then (if (wrap64 (a1 + 1)) < (l0.length : Int) then (some (Go.bits .or .u16 (IntKind.u16.wrap ((IntKind.u16.wrap (rd l0 a1)) * 256)) (IntKind.u16.wrap (rd l0 (wrap64 (a1 + 1)))), true)) else (none)) else (none)) else (none)) else (none)))) = some (r1, r2) := h
 clear h
 by_cases c3 : a1 < 0
 ·
  rw [if_pos c3] at H
  have c3b0 : decide (a1 < 0) = true := dT c3
  clear c3
  simp only [Option.some.injEq, Prod.mk.injEq] at H
  obtain ⟨rfl, rfl⟩ := H
  go_enter Tryz.func202, Tryz.ntmps202
  go_wp2
  repeat (go_quiet (fail); try go_wp2)
  go_ret2
  exact ⟨by first | rfl | (simp; done) | (simp [*]; done), by repeat (first | exact zw.refl _ | apply zw.step)⟩
 ·
  rw [if_neg c3] at H
  have c3b0 : decide (a1 < 0) = false := dF c3
  clear c3
  by_cases c4 : (wrap64 ((l0.length : Int) - a1)) < 2
  ·
   rw [if_pos c4] at H
   have c4b0 : decide ((wrap64 ((l0.length : Int) - a1)) < 2) = true := dT c4
   clear c4
   simp only [Option.some.injEq, Prod.mk.injEq] at H
   obtain ⟨rfl, rfl⟩ := H
   go_enter Tryz.func202, Tryz.ntmps202
   go_wp2
   repeat (go_quiet (fail); try go_wp2)
   go_ret2
   exact ⟨by first | rfl | (simp; done) | (simp [*]; done), by repeat (first | exact zw.refl _ | apply zw.step)⟩
  ·
   rw [if_neg c4] at H
   have c4b0 : decide ((wrap64 ((l0.length : Int) - a1)) < 2) = false := dF c4
   clear c4
   by_cases c5 : 0 ≤ a1
   ·
    rw [if_pos c5] at H
    have c5b0 : decide (0 ≤ a1) = true := dT c5
    clear c5
    by_cases c6 : a1 < (l0.length : Int)
    ·
     rw [if_pos c6] at H
     have c6b0 : decide (a1 < (l0.length : Int)) = true := dT c6
     clear c6
     obtain ⟨ji7, hji7⟩ : ∃ j_ : Int, (wrap64 (a1 + 1)) = j_ := ⟨_, rfl⟩
     replace H : (if 0 ≤ (ji7) then (if (ji7) < (l0.length : Int) then (some (Go.bits .or .u16 (IntKind.u16.wrap ((IntKind.u16.wrap (rd l0 a1)) * 256)) (IntKind.u16.wrap (rd l0 (ji7))), true)) else (none)) else (none)) = some (r1, r2) := by first | (rw [hji7] at H; exact H) | (simp only [hji7] at H ⊢; exact H)
     have hji7w : (IntKind.i64.wrap (a1 + 1)) = ji7 := (xy _).trans hji7
     by_cases c8 : 0 ≤ (ji7)
     ·
      rw [if_pos c8] at H
      have c8b0 : decide (0 ≤ (ji7)) = true := dT c8
      clear c8
      by_cases c9 : (ji7) < (l0.length : Int)
      ·
       rw [if_pos c9] at H
       have c9b0 : decide ((ji7) < (l0.length : Int)) = true := dT c9
       clear c9
       simp only [Option.some.injEq, Prod.mk.injEq] at H
       obtain ⟨rfl, rfl⟩ := H
       have p175 : 0 ≤ (a1 : Int) := of_decide_eq_true (by first | (with_reducible assumption) | assumption)
       have q175 : a1 < (l0.length : Int) := of_decide_eq_true (by first | (with_reducible assumption) | assumption)
       obtain ⟨ad175, e175, hx175_0⟩ := Kd.qH HR0.out a1 p175 q175
       cases e175
       replace p175 := eq_true p175
       replace q175 := eq_true q175
       have p176 : 0 ≤ ((ji7) : Int) := of_decide_eq_true (by first | (with_reducible assumption) | assumption)
       have q176 : (ji7) < (l0.length : Int) := of_decide_eq_true (by first | (with_reducible assumption) | assumption)
       obtain ⟨ad176, e176, hx176_0⟩ := Kd.qH HR0.out (ji7) p176 q176
       obtain rfl : ad175 = ad176 := (by injection e176)
       replace p176 := eq_true p176
       replace q176 := eq_true q176
       go_enter Tryz.func202, Tryz.ntmps202
       go_wp2
       repeat (go_quiet (fail); try go_wp2)
       go_ret2
       exact ⟨by first | rfl | (simp; done) | (simp only [← hji7] <;> (first | rfl | simp)) | (simp [*]; done), by repeat (first | exact zw.refl _ | apply zw.step)⟩
      ·
       rw [if_neg c9] at H
       exact absurd H (by simp)
     ·
      rw [if_neg c8] at H
      exact absurd H (by simp)
    ·
     rw [if_neg c6] at H
     exact absurd H (by simp)
   ·
    rw [if_neg c5] at H
    exact absurd H (by simp)
end Go.Proofs.YtlalbohhopmpdaaGreat.PTop
namespace Go.Proofs.YtlalbohhopmpdaaGreat.Top
open Go.RowKit Go.Proofs.YtlalbohhopmpdaaGreat.PTop Go.YW.PrintWords Go.YW.PrintLast Go.YW.PrintMore Go.Proofs.YtlalbohhopmpdaaGreat.Num
attribute [local go_sem] zk zo
theorem Wh (hi lo : Int) (rest : List Int) (h1 : 0 ≤ hi ∧ hi < 256) (h : 0 ≤ lo ∧ lo < 256) (hr : rest.length ≤ 1000) : yZ.f (hi :: lo :: rest) 0 = some (hi * 256 + lo, true) := by
  unfold yZ.f
  have e1 : ¬ (wrap64 (((hi :: lo :: rest : List Int).length : Int) - 0) < 2) := by
    rw [zu (by simp; omega) (by simp; omega)]
    simp
    omega
  have e0 : wrap64 (0 + 1) = 1 := zu (by omega) (by omega)
  rw [if_neg (by omega), if_neg e1, if_pos (by omega), if_pos (by simp; omega), e0, if_pos (by omega), if_pos (by simp; omega)]
  have e2 : rd (hi :: lo :: rest) 1 = lo := by simp [rd]
  have e3 : rd (hi :: lo :: rest) 0 = hi := by simp [rd]
  have e4 : IntKind.u16.wrap lo = lo := by show lo % 65536 = lo; omega
  have e5 : IntKind.u16.wrap (IntKind.u16.wrap hi * 256) = hi * 256 := by show (hi % 65536 * 256) % 65536 = hi * 256; omega
  rw [e2, e3, e4]
  first
    | rw [e5, Ya (hi * 256) lo (by omega) (by omega) (by omega) h.1 h.2]
    | (show some (bits .or .u16 (IntKind.u16.wrap (IntKind.u16.wrap hi * 256)) lo, true) = _
       rw [e5, Ya (hi * 256) lo (by omega) (by omega) (by omega) h.1 h.2])
structure jy (w : World) (cb : Nat) (l : List Int) (A : Option Addr) (c : Nat) : Prop where
  blk : w.heap[cb]? = some (.cells #[.slice A l.length c, .bool false] 228 (0, 0))
  row : Kd.C (Kd.int .u8) w A l.length l
  le : l.length ≤ c
  lt : ∀ ad, A = some ad → ad.block < cb
theorem vO (w : World) (cb i m : Nat) (v : Value) : w.grownBy ((w.setCell ⟨cb, i, none⟩ v).drewN m) (some cb) :=
  ⟨rfl, rfl, rfl, by simp [World.setCell], fun k _ hk => Below.heap_setCell w ⟨cb, i, none⟩ v k (fun e => hk (by rw [e]))⟩
theorem YO {w w1 : World} {cb : Nat} (h : w.grownBy w1 (some cb)) : kC w w1 cb none := ⟨h.size, fun i hi hne _ => h.block i hi (fun e => hne (by injection e))⟩
theorem jy.set {w : World} {cb : Nat} {l rest : List Int} {A A' : Option Addr} {c c' m : Nat} (h : jy w cb l A c) (hr : Kd.C (Kd.int .u8) w A' rest.length rest) (hl : rest.length ≤ c') (hlt : ∀ ad, A' = some ad → ad.block < cb) :
    jy ((w.setCell ⟨cb, 0, none⟩ (.slice A' rest.length c')).drewN m) cb rest A' c' := by
  have hg := vO w cb 0 m (.slice A' rest.length c')
  refine ⟨?_, Kd.zbi (0 : Int) hr (YO hg) (fun ad e _ => Nat.ne_of_lt (hlt ad e)), hl, hlt⟩
  have := blk_set h.blk 0 (.slice A' rest.length c')
  exact this
theorem JE (w : World) (cb : Nat) (hi lo : Int) (rest : List Int) (A : Option Addr) (c : Nat) (h : jy w cb (hi :: lo :: rest) A c) (hhi : 0 ≤ hi ∧ hi < 256) (hlo : 0 ≤ lo ∧ lo < 256) (hr : rest.length ≤ 1000) (x : Int) (hx : hi * 256 + lo = x) :
    Calls Tryz.prog 163 #[.pointer (some ⟨cb, 0, none⟩)] w fun e w' => e = .returned (.int .u16 x) ∧ (∃ A' c', jy w' cb rest A' c') ∧ w.grownBy w' (some cb) := by
  have hu228 := Tryz.underlying228
  have hg2 := Wh hi lo rest hhi hlo hr
  rw [hx] at hg2
  have c0 : w.cell? ⟨cb, 0, none⟩ = some (.slice A (hi :: lo :: rest).length c) := za h.blk 0
  have z0 : w.frozen? ⟨cb, 0, none⟩ = false := zh h.blk 0
  have HC := hQ h
  have HR := hQ hr
  have HG := hQ hg2
  clear h hr hlo hhi hg2 hx
  go_enter Tryz.func163, Tryz.ntmps163
  go_wp2_with (fail)
  refine (yZ.calls A c (hi :: lo :: rest) 0 x true w HC.out.row HC.out.le HG.out).mono ?_
  rintro e w2 ⟨rfl, ⟨m, rfl⟩⟩
  have hd := Kd.QK (m := 2) HC.out.row (by simp) HC.out.le
  go_wp2
  all_goals
    go_ret
  · obtain ⟨h0, h1⟩ : c = 2 ∧ rest = [] := by
      have := HC.out.le
      simp at this
      exact ⟨by assumption, List.eq_nil_of_length_eq_zero (by omega)⟩
    subst h1
    refine ⟨rfl, ⟨A, 0, jy.set HC.out ?_ (by simp) HC.out.lt⟩, vO _ _ _ _ _⟩
    rw [if_pos h0] at hd
    exact hd
  · refine ⟨rfl, ⟨A.map (·.add 2), c - 2, jy.set HC.out ?_ (by have := HC.out.le; simp at this; omega) ?_⟩, vO _ _ _ _ _⟩
    · rw [if_neg (by assumption)] at hd
      exact hd
    · intro ad e
      cases A with
      | none => cases e
      | some a =>
        cases e
        exact HC.out.lt a rfl
theorem ZX (w : World) (cb : Nat) (lo : Int) (rest : List Int) (A : Option Addr) (c : Nat) (h : jy w cb (0 :: lo :: rest) A c) (hlo : 0 ≤ lo ∧ lo < 256) (hr : rest.length ≤ 1000) :
    Calls Tryz.prog 161 #[.pointer (some ⟨cb, 0, none⟩)] w fun e w' => e = .returned (.int .i64 lo) ∧ (∃ A' c', jy w' cb rest A' c') ∧ w.grownBy w' (some cb) := by
  have HC := hQ h
  have HR := hQ hr
  have HLO := hQ hlo
  have hw : wrap64 lo = lo := zu (by omega) (by omega)
  clear h hr hlo
  go_enter Tryz.func161, Tryz.ntmps161
  go_wp2_with (fail)
  refine (JE w cb 0 lo rest A c HC.out (by omega) HLO.out HR.out lo (by omega)).mono ?_
  rintro e w2 ⟨rfl, h2, g2⟩
  have H2 := hQ h2
  have G2 := hQ g2
  clear h2 g2
  go_wp2
  go_ret
  exact ⟨congrArg (fun n => Ending.returned (.int .i64 n)) hw, H2.out, G2.out⟩
def jF (at_ n : Int) : Value := .agg #[.int .i64 3, .int .i64 at_, .int .i64 n, .int .u16 0, .int .u16 0, .int .u16 0, .slice none 0 0, .slice none 0 0, .int .i64 0, .int .i64 0, .int .i64 0, .int .i64 0]
def qF (at_ v : Int) : Value := .agg #[.int .i64 6, .int .i64 at_, .int .i64 0, .int .u16 v, .int .u16 0, .int .u16 0, .slice none 0 0, .slice none 0 0, .int .i64 0, .int .i64 0, .int .i64 0, .int .i64 0]
theorem jy.grown {w w1 : World} {cb : Nat} {l : List Int} {A : Option Addr} {c : Nat} (h : jy w cb l A c) (hb : Below w.heap.size w w1) : jy w1 cb l A c :=
  ⟨zb h.blk hb, Kd.zx h.row hb, h.le, h.lt⟩
theorem zV {w : World} {g t : Nat} {v0 v1 v2 v3 v4 v5 v6 v7 v8 v9 v10 v11 : Value} (h : w.heap[g]? = some (.cells #[v0, v1, v2, v3, v4, v5, v6, v7, v8, v9, v10, v11] t (0, 0))) :
    w.cell? ⟨g, 0, none⟩ = some v0 ∧ w.cell? ⟨g, 1, none⟩ = some v1 ∧ w.cell? ⟨g, 2, none⟩ = some v2 ∧ w.cell? ⟨g, 3, none⟩ = some v3 ∧ w.cell? ⟨g, 4, none⟩ = some v4 ∧ w.cell? ⟨g, 5, none⟩ = some v5 ∧ w.cell? ⟨g, 6, none⟩ = some v6 ∧ w.cell? ⟨g, 7, none⟩ = some v7 ∧ w.cell? ⟨g, 8, none⟩ = some v8 ∧ w.cell? ⟨g, 9, none⟩ = some v9 ∧ w.cell? ⟨g, 10, none⟩ = some v10 ∧ w.cell? ⟨g, 11, none⟩ = some v11 := ⟨za h 0, za h 1, za h 2, za h 3, za h 4, za h 5, za h 6, za h 7, za h 8, za h 9, za h 10, za h 11⟩
theorem jG {B g j : Nat} {a W : World} {v : Value} (h : Below B a W) (hg : B ≤ g) : Below B a (W.setCell ⟨g, j, none⟩ v) := h.setCell hg _
theorem jy.nil {w w1 : World} {cb : Nat} {A : Option Addr} {c B : Nat} (h : jy w cb [] A c) (hcb : cb < B) (hb : Below B w w1) : jy w1 cb [] A c :=
  ⟨(hb.block cb hcb).trans h.blk, ⟨rfl, by simp, fun h => absurd h (Nat.lt_irrefl 0)⟩, h.le, h.lt⟩
theorem jy.far {w : World} {cb : Nat} {l : List Int} {A : Option Addr} {c : Nat} (h : jy w cb l A c) {g i : Nat} {v : Value} (hg : cb < g) : jy (w.setCell ⟨g, i, none⟩ v) cb l A c := by
  have hk := vO w g i 0 v
  refine ⟨yG h.blk hk (fun e => by injection e; omega), Kd.zbi (0 : Int) h.row (YO hk) (fun ad e _ => by have := h.lt ad e; omega), h.le, h.lt⟩
def yM : Array Value := #[.int .i64 0, .int .i64 0, .int .i64 0, .int .u16 0, .int .u16 0, .int .u16 0, .slice none 0 0, .slice none 0 0, .int .i64 0, .int .i64 0, .int .i64 0, .int .i64 0]
def jO (k : Int) : Array Value := #[.int .i64 k, .int .i64 0, .int .i64 0, .int .u16 0, .int .u16 0, .int .u16 0, .slice none 0 0, .slice none 0 0, .int .i64 0, .int .i64 0, .int .i64 0, .int .i64 0]
theorem ZB {w w1 w2 w3 : World} {cb : Nat} (h : Below w.heap.size w w1) (h2 : w1.grownBy w2 (some cb)) (h3 : Below w.heap.size w2 w3) : w.grownBy w3 (some cb) :=
  ⟨h3.os.trans (h2.os.trans h.os), h3.tape.trans (h2.tape.trans h.tape), h3.output.trans (h2.output.trans h.output), Nat.le_trans h.size (Nat.le_trans h2.size h3.size), fun k hk hne => (h3.block k hk).trans ((h2.block k (Nat.lt_of_lt_of_le hk h.size) hne).trans (h.block k hk))⟩
theorem zaY (w : World) (cb : Nat) (a n : Int) (A : Option Addr) (c : Nat) (h : jy w cb [0, a, 0, n] A c) (ha : 0 ≤ a ∧ a < 256) (hn : 0 ≤ n ∧ n < 256) :
    Calls Tryz.prog 133 #[.pointer (some ⟨cb, 0, none⟩), .int .i64 3] w fun e w' => e = .returned (jF a n) ∧ (∃ A' c', jy w' cb [] A' c') ∧ w.grownBy w' (some cb) := by
  have hu37 := Tryz.underlying37
  obtain ⟨W1, hW1⟩ : ∃ W1, W1 = (w.alloc (.cells yM 37)).alloc (.cells (jO 3) 37) := ⟨_, rfl⟩
  have B1 := hQ (show Below w.heap.size w W1 by rw [hW1]; exact ((Below.refl _ _).alloc (Nat.le_refl _) _).alloc (by simp) _)
  have X1 := hQ (show W1.heap[w.heap.size]? = some (.cells yM 37 (0, 0)) by rw [hW1]; exact zg (zi w _) _)
  have Y1 := hQ (show W1.heap[w.heap.size + 1]? = some (.cells (jO 3) 37 (0, 0)) by rw [hW1]; have h := zi (w.alloc (.cells yM 37)) (.cells (jO 3) 37); rw [show (w.alloc (.cells yM 37)).heap.size = w.heap.size + 1 by simp] at h; exact h)
  have hlt := zF h.blk
  have HC := hQ (h.grown B1.out)
  have HA := hQ ha
  have HN := hQ hn
  have HLT := hQ hlt
  clear h ha hn hlt
  simp only [yM, jO] at hW1
  go_enter Tryz.func133, Tryz.ntmps133
  go_wp2_with (fail)
  rw [← hW1]
  clear hW1
  refine (ZX W1 cb a [0, n] A c HC.out HA.out (by simp)).mono ?_
  rintro e w2 ⟨rfl, ⟨A2, c2, h2⟩, g2⟩
  have HC2 := hQ h2
  have G2 := hQ g2
  clear h2 g2
  go_wp2_with (fail)
  refine (ZX w2 cb n [] A2 c2 HC2.out HN.out (by simp)).mono ?_
  rintro e w3 ⟨rfl, ⟨A3, c3, h3⟩, g3⟩
  have HC3 := hQ h3
  have hne : some w.heap.size ≠ some cb := by have := HLT.out; intro e; injection e; omega
  have hne1 : some (w.heap.size + 1) ≠ some cb := by have := HLT.out; intro e; injection e; omega
  have X3 := hQ (yG (yG X1.out G2.out hne) g3 hne)
  have Y3 := hQ (yG (yG Y1.out G2.out hne1) g3 hne1)
  have G3 := hQ (G2.out.trans g3)
  clear h3 g3 hne hne1
  obtain ⟨y0, y1, y2, y3, y4, y5, y6, y7, y8, y9, y10, y11⟩ := zV Y3.out
  obtain ⟨x0, x1, x2, x3, x4, x5, x6, x7, x8, x9, x10, x11⟩ := zV X3.out
  have fy : ∀ i, w3.frozen? ⟨w.heap.size + 1, i, none⟩ = false := fun i => zh Y3.out i
  have fx : ∀ i, w3.frozen? ⟨w.heap.size, i, none⟩ = false := fun i => zh X3.out i
  go_wp2
  refine bodyPost_ret (v := jF a n) ?_ rfl ⟨rfl, ⟨A3, c3, jy.nil HC3.out HLT.out ?_⟩, ZB B1.out G3.out ?_⟩
  · simp [results, Tryz.results133, go_sem, hu37, x0, x1, x2, x3, x4, x5, x6, x7, x8, x9, x10, x11, jF]
  · (repeat (with_reducible first | exact Below.refl _ _ | (refine jG ?_ (by omega))))
  · (repeat (with_reducible first | exact Below.refl _ _ | (refine jG ?_ (by omega))))
theorem zaq (w : World) (cb : Nat) (a v : Int) (A : Option Addr) (c : Nat) (h : jy w cb [0, a, v / 256, v % 256] A c) (ha : 0 ≤ a ∧ a < 256) (hn : 0 ≤ v ∧ v < 65536) :
    Calls Tryz.prog 133 #[.pointer (some ⟨cb, 0, none⟩), .int .i64 6] w fun e w' => e = .returned (qF a v) ∧ (∃ A' c', jy w' cb [] A' c') ∧ w.grownBy w' (some cb) := by
  have hu37 := Tryz.underlying37
  obtain ⟨W1, hW1⟩ : ∃ W1, W1 = (w.alloc (.cells yM 37)).alloc (.cells (jO 6) 37) := ⟨_, rfl⟩
  have B1 := hQ (show Below w.heap.size w W1 by rw [hW1]; exact ((Below.refl _ _).alloc (Nat.le_refl _) _).alloc (by simp) _)
  have X1 := hQ (show W1.heap[w.heap.size]? = some (.cells yM 37 (0, 0)) by rw [hW1]; exact zg (zi w _) _)
  have Y1 := hQ (show W1.heap[w.heap.size + 1]? = some (.cells (jO 6) 37 (0, 0)) by rw [hW1]; have h := zi (w.alloc (.cells yM 37)) (.cells (jO 6) 37); rw [show (w.alloc (.cells yM 37)).heap.size = w.heap.size + 1 by simp] at h; exact h)
  have hlt := zF h.blk
  have HC := hQ (h.grown B1.out)
  have HA := hQ ha
  have HN := hQ hn
  have HLT := hQ hlt
  clear h ha hn hlt
  simp only [yM, jO] at hW1
  go_enter Tryz.func133, Tryz.ntmps133
  go_wp2_with (fail)
  rw [← hW1]
  clear hW1
  refine (ZX W1 cb a [v / 256, v % 256] A c HC.out HA.out (by simp)).mono ?_
  rintro e w2 ⟨rfl, ⟨A2, c2, h2⟩, g2⟩
  have HC2 := hQ h2
  have G2 := hQ g2
  have hne : some w.heap.size ≠ some cb := by have := HLT.out; intro e; injection e; omega
  have hne1 : some (w.heap.size + 1) ≠ some cb := by have := HLT.out; intro e; injection e; omega
  have X2 := hQ (yG X1.out g2 hne)
  have Y2 := hQ (yG Y1.out g2 hne1)
  clear h2 g2 hne hne1
  have fy : ∀ i, w2.frozen? ⟨w.heap.size + 1, i, none⟩ = false := fun i => zh Y2.out i
  obtain ⟨y0, y1, y2, y3, y4, y5, y6, y7, y8, y9, y10, y11⟩ := zV Y2.out
  go_wp2_with (fail)
  refine (JE _ cb (v / 256) (v % 256) [] A2 c2 (HC2.out.far (by have := HLT.out; omega)) (by have := HN.out; omega) (by omega) (by simp) v (by omega)).mono ?_
  rintro e w3 ⟨rfl, ⟨A3, c3, h3⟩, g3⟩
  have HC3 := hQ h3
  have hne : some w.heap.size ≠ some cb := by have := HLT.out; intro e; injection e; omega
  have hne1 : some (w.heap.size + 1) ≠ some cb := by have := HLT.out; intro e; injection e; omega
  have X3 := hQ (yG (yI X2.out (by simp) _) g3 hne)
  have Y3 := hQ (yG (blk_set Y2.out 1 (.int .i64 a)) g3 hne1)
  have G3 := hQ (show w.grownBy w3 (some cb) from (ZB B1.out G2.out (jG (Below.refl _ _) (by omega))).trans g3)
  clear h3 g3 hne hne1 fy y0 y1 y2 y3 y4 y5 y6 y7 y8 y9 y10 y11
  obtain ⟨y0, y1, y2, y3, y4, y5, y6, y7, y8, y9, y10, y11⟩ := zV Y3.out
  obtain ⟨x0, x1, x2, x3, x4, x5, x6, x7, x8, x9, x10, x11⟩ := zV X3.out
  have fy : ∀ i, w3.frozen? ⟨w.heap.size + 1, i, none⟩ = false := fun i => zh Y3.out i
  have fx : ∀ i, w3.frozen? ⟨w.heap.size, i, none⟩ = false := fun i => zh X3.out i
  go_wp2
  refine bodyPost_ret (v := qF a v) ?_ rfl ⟨rfl, ⟨A3, c3, jy.nil HC3.out HLT.out ?_⟩, ZB (Below.refl _ _) G3.out ?_⟩
  · simp [results, Tryz.results133, go_sem, hu37, x0, x1, x2, x3, x4, x5, x6, x7, x8, x9, x10, x11, qF]
  · (repeat (with_reducible first | exact Below.refl _ _ | (refine jG ?_ (by omega))))
  · (repeat (with_reducible first | exact Below.refl _ _ | (refine jG ?_ (by omega))))
end Go.Proofs.YtlalbohhopmpdaaGreat.Top
