/- Words and walks for TopSkew (made of the session's own texts; each part by itself). -/
import Derived.Deep.DeepCutAuto
import Derived.Deep.DeepMust
import Derived.Deep.RegionLaw
import Derived.Test.YtlalbohhopmpdaaGreatZTopSkew9
set_option maxRecDepth 100000
set_option maxHeartbeats 8000000
set_option linter.unusedVariables false
set_option linter.unusedSimpArgs false
namespace Go.Proofs.YtlalbohhopmpdaaGreat.Top
open Go.RowKit Go.Proofs.YtlalbohhopmpdaaGreat.PTop Go.YW.PrintWords Go.YW.PrintLast Go.YW.PrintMore Go.Proofs.YtlalbohhopmpdaaGreat.Num
attribute [local go_sem] zm zu
theorem JD (w : World) (A : Option Addr) (c : Nat) (t a : Int) (f : Value) :
    Calls Tryz.prog 252 #[.slice A 0 c, .agg #[.int .i64 t, .int .i64 a], f] w fun e w' => e = .returned (.tuple #[.int .i64 0, .bool false]) ∧ Below w.heap.size w w' := by
  have hu155 := Tryz.underlying155
  have hu158 := Tryz.underlying158
  go_enter Tryz.func252, Tryz.ntmps252
  go_wp2_with (fail)
  go_loopg [9, 10] 0 (fun g_ v9 v10 wx => v9 = .int .i64 0 ∧ v10 = .int .i64 0 ∧ zf (Below w.heap.size w wx))
  case atStart => exact ⟨rfl, rfl, ⟨(Below.refl _ _).alloc (Nat.le_refl _) _⟩⟩
  case round =>
    obtain ⟨rfl, rfl, HB⟩ := hrel
    go_wp2_with (fail)
    go_region
    go_wp2
    exact bodyPost_ret (v := .tuple #[.int .i64 0, .bool false]) (by simp [results, Tryz.results252, go_sem]) rfl ⟨rfl, by first | exact HB.out.trans (zk (Below.refl _ _)) | exact zt HB.out _⟩
theorem YS (w : World) (A : Option Addr) (c : Nat) (t a : Int) :
    Calls Tryz.prog 244 #[.slice A 0 c, .agg #[.int .i64 t, .int .i64 a]] w fun e w' => e = .returned (.tuple #[.int .i64 0, .bool false]) ∧ Below w.heap.size w w' := by
  have hu155 := Tryz.underlying155
  have hu158 := Tryz.underlying158
  have HB0 := hQ ((Below.refl w.heap.size w).alloc (Nat.le_refl _) (.cells #[.int .i64 t, .int .i64 a] 158))
  go_enter Tryz.func244, Tryz.ntmps244
  go_wp2_with (fail)
  refine (JD _ A c t a _).mono ?_
  rintro e w1 ⟨rfl, hb⟩
  have HB := hQ (ze HB0.out HB0.out.size hb)
  clear hb
  go_wp2_with (fail)
  go_region
  go_wp2
  exact bodyPost_ret (v := .tuple #[.int .i64 0, .bool false]) (by simp [results, Tryz.results244, go_sem]) rfl ⟨rfl, by first | exact HB.out.trans (zk (Below.refl _ _)) | exact zt HB.out _⟩
theorem zbt (w : World) (A : Option Addr) (c : Nat) (t a : Int) :
    Calls Tryz.prog 233 #[.slice A 0 c, .agg #[.int .i64 t, .int .i64 a]] w fun e w' => e = .returned (.tuple #[.int .u16 0, .bool false]) ∧ Below w.heap.size w w' := by
  have hu155 := Tryz.underlying155
  have hu158 := Tryz.underlying158
  have HB0 := hQ ((Below.refl w.heap.size w).alloc (Nat.le_refl _) (.cells #[.int .i64 t, .int .i64 a] 158))
  go_enter Tryz.func233, Tryz.ntmps233
  go_wp2_with (fail)
  refine (YS _ A c t a).mono ?_
  rintro e w1 ⟨rfl, hb⟩
  have HB := hQ (ze HB0.out HB0.out.size hb)
  clear hb
  go_wp2
  exact bodyPost_ret (v := .tuple #[.int .u16 0, .bool false]) (by simp [results, Tryz.results233, go_sem]) rfl ⟨rfl, HB.out⟩
end Go.Proofs.YtlalbohhopmpdaaGreat.Top
namespace Go.Proofs.YtlalbohhopmpdaaGreat.Tiny
open Go.RowKit Go.YW.PrintWords Go.YW.PrintLast
section
variable {P : Program} {ops : Array Oper} {Q : Exit → Act → World → Prop} {md : Region.Mode} {S : World → Prop} {ds : List Nat} {oi : Oper} {v : Value} {fuel : Nat} {l l' : Array Bool} {a a' : Act} {w : World}
theorem pq_ (i : Nat) (N : Option Tmp) (h : zL P md ops Q S ds fuel l' a' w) (hi : ops[i]? = some oi := by rfl) (hN : oi.dst = N := by rfl) (hl : l.setIfInBounds i true = l' := by (simp only [List.setIfInBounds_toArray, List.set_cons_zero, List.set_cons_succ]; rfl)) (hc : VT md ops l l' i = true := by kernel_rfl)
    (hQ : ∀ c a w, Q (.panic c) (a.put oi.dst v) w → Q (.panic c) a w := by exact fun _ _ _ h => h) (hy : Yields P ops oi v a := by (refine Or.inl ⟨by rfl, ?_⟩; intro w'; go_simp; with_reducible rfl))
    (ha : a.put N v = a' := by (simp only [Act.put, List.setIfInBounds_toArray, List.set_cons_zero, List.set_cons_succ, yX, xN]; rfl)) : zL P md ops Q S ds (fuel + 1) l a w :=
  jw _ hi hN hc hQ hy ha h
theorem uq_ (i : Nat) (N : Option Tmp) (h : zL P md ops Q S ds fuel l' a' w) (hi : ops[i]? = some oi := by rfl) (hN : oi.dst = N := by rfl) (hl : l.setIfInBounds i true = l' := by (simp only [List.setIfInBounds_toArray, List.set_cons_zero, List.set_cons_succ]; rfl)) (hc : VT md ops l l' i = true := by kernel_rfl)
    (hQ : ∀ c a w, Q (.panic c) (a.put oi.dst undef) w → Q (.panic c) a w := by exact fun _ _ _ h => h) (hy : Yields P ops oi undef a := by exact Or.inr ⟨by rfl, rfl⟩)
    (ha : a.put N undef = a' := by (simp only [Act.put, List.setIfInBounds_toArray, List.set_cons_zero, List.set_cons_succ, yX, xN]; rfl)) : zL P md ops Q S ds (fuel + 1) l a w :=
  jw _ hi hN hc hQ hy ha h
theorem tq_ (i : Nat) (N : Option Tmp) (hS : S w) (h : zL P md ops Q S ds fuel l' a' w) (hi : ops[i]? = some oi := by rfl) (hN : oi.dst = N := by rfl) (hl : l.setIfInBounds i true = l' := by (simp only [List.setIfInBounds_toArray, List.set_cons_zero, List.set_cons_succ]; rfl)) (hc : takeB md ops ds l l' i = true := by kernel_rfl)
    (hQ : ∀ c a w, Q (.panic c) (a.put oi.dst v) w → Q (.panic c) a w := by exact fun _ _ _ h => h) (hy : YieldsIf P ops S oi v a := by (refine Or.inl ⟨by rfl, ?_⟩; intro w' hs; (try simp only [] at hs); go_simp; with_reducible rfl))
    (ha : a.put N v = a' := by (simp only [Act.put, List.setIfInBounds_toArray, List.set_cons_zero, List.set_cons_succ, yX, xN]; rfl)) : zL P md ops Q S ds (fuel + 1) l a w :=
  take_ _ hi hN hc hQ hy hS ha h
theorem oq_ (i : Nat) (N : Option Tmp) (h : ∀ K : Act → World → Prop, Shut (∀ a' w', S w' → (S w' → zL P md ops Q S ds fuel l' a' w') → K a' w') → if Region.wanted oi (yielded ops a.tmps) = true then Oper.wp P oi a w K Q else K (a.put N undef) w)
    (hi : ops[i]? = some oi := by rfl) (hN : oi.dst = N := by rfl) (hl : l.setIfInBounds i true = l' := by (simp only [List.setIfInBounds_toArray, List.set_cons_zero, List.set_cons_succ]; rfl)) (hc : Ze md ops l l' i = true := by kernel_rfl) (hd : i ∉ ds := by decide) : zL P md ops Q S ds (fuel + 1) l a w :=
  zc0 _ hi hN hc hd h
theorem sq_ {id : Nat} (l : Array Bool) (S : World → Prop) (hS : S w.drew) (h : S w.drew → zL P .any ops Q S ds ops.size l a w.drew) (hm : P.follows .mixedOrders = true := by kernel_rfl) (hl : Array.replicate ops.size false = l := by rfl) : (Code.region id ops true).wp P Q a w :=
  Zi _ hm rfl hl hS h
theorem nq_ (h : zL P md ops Q S ds fuel l a' w) (ha : a = a' := by (simp only [Act.put, List.setIfInBounds_toArray, List.set_cons_zero, List.set_cons_succ, yX, xN]; rfl)) : zL P md ops Q S ds fuel l a w := kD ha h
end
end Go.Proofs.YtlalbohhopmpdaaGreat.Tiny
namespace Go.Proofs.YtlalbohhopmpdaaGreat.Top
open Go.Proofs.YtlalbohhopmpdaaGreat.Tiny
open Go.RowKit Go.Proofs.YtlalbohhopmpdaaGreat.PTop Go.YW.PrintWords Go.YW.PrintLast Go.YW.PrintMore Go.Proofs.YtlalbohhopmpdaaGreat.Num
attribute [local go_sem] zm zu
theorem cell_below {w w1 : World} {p : Addr} {v : Value} (h : w.cell? p = some v) (hb : Below w.heap.size w w1) : w1.cell? p = some v := by
  have hlt := World.block_lt_of_cell? _ _ h
  have e := hb.block p.block hlt
  unfold World.cell? at h ⊢
  rw [e]
  exact h
end Go.Proofs.YtlalbohhopmpdaaGreat.Top
namespace Go.Proofs.YtlalbohhopmpdaaGreat.PTop
open Go.RowKit Go.YW.PrintWords Go.YW.PrintLast Go.YW.PrintMore
attribute [local go_sem] yU yT xE xC xe yZ xJ xK zm zu   -- for this text's walks alone
def xL.f (a0_0 : Int) (a0_1 : Int) (a0_2 : Int) : Option (Int × Int × Int) := some (mn (mx a0_0 0) 65535, mn (mx a0_1 2) 254, mn (mx a0_2 0) 255)
theorem xL.calls (a0_0 : Int) (a0_1 : Int) (a0_2 : Int) (r1 : Int) (r2 : Int) (r3 : Int) (w : World) (h : xL.f a0_0 a0_1 a0_2 = some (r1, r2, r3)) :
  Calls Tryz.prog 149 #[.agg #[.int .i64 a0_0, .int .i64 a0_1, .int .i64 a0_2]] w fun e w' => e = .returned (.agg #[.int .i64 r1, .int .i64 r2, .int .i64 r3]) ∧ Below w.heap.size w w' := by
 have hu201 := Tryz.underlying201
 have HB := zf.mk (Below.refl w.heap.size w)
 have H : (some (mn (mx a0_0 0) 65535, mn (mx a0_1 2) 254, mn (mx a0_2 0) 255)) = some (r1, r2, r3) := h
 clear h
 obtain ⟨ji2, hji2⟩ : ∃ j_ : Int, (mx a0_0 0) = j_ := ⟨_, rfl⟩
 replace H : (some (mn (ji2) 65535, mn (mx a0_1 2) 254, mn (mx a0_2 0) 255)) = some (r1, r2, r3) := by first | (rw [hji2] at H; exact H) | (simp only [hji2] at H ⊢; exact H)
 (try (have hji2l : 0 ≤ ji2 := by (rw [← hji2]; unfold mx; (repeat' split) <;> omega)))
 (try (have hji2m : 0 ≤ ji2 := by omega))
 have hji2_ : (if a0_0 < 0 then 0 else a0_0) = ji2 := hji2
 obtain ⟨ji3, hji3⟩ : ∃ j_ : Int, (mn (ji2) 65535) = j_ := ⟨_, rfl⟩
 replace H : (some (ji3, mn (mx a0_1 2) 254, mn (mx a0_2 0) 255)) = some (r1, r2, r3) := by first | (rw [hji3] at H; exact H) | (simp only [hji3] at H ⊢; exact H)
 have hji3_ : (if 65535 < (ji2) then 65535 else (ji2)) = ji3 := hji3
 obtain ⟨ji4, hji4⟩ : ∃ j_ : Int, (mx a0_1 2) = j_ := ⟨_, rfl⟩
 replace H : (some (ji3, mn (ji4) 254, mn (mx a0_2 0) 255)) = some (r1, r2, r3) := by first | (rw [hji4] at H; exact H) | (simp only [hji4] at H ⊢; exact H)
 (try (have hji4l : 2 ≤ ji4 := by (rw [← hji4]; unfold mx; (repeat' split) <;> omega)))
 (try (have hji4m : 0 ≤ ji4 := by omega))
 have hji4_ : (if a0_1 < 2 then 2 else a0_1) = ji4 := hji4
 obtain ⟨ji5, hji5⟩ : ∃ j_ : Int, (mn (ji4) 254) = j_ := ⟨_, rfl⟩
 replace H : (some (ji3, ji5, mn (mx a0_2 0) 255)) = some (r1, r2, r3) := by first | (rw [hji5] at H; exact H) | (simp only [hji5] at H ⊢; exact H)
 have hji5_ : (if 254 < (ji4) then 254 else (ji4)) = ji5 := hji5
 obtain ⟨ji6, hji6⟩ : ∃ j_ : Int, (mx a0_2 0) = j_ := ⟨_, rfl⟩
 replace H : (some (ji3, ji5, mn (ji6) 255)) = some (r1, r2, r3) := by first | (rw [hji6] at H; exact H) | (simp only [hji6] at H ⊢; exact H)
 (try (have hji6l : 0 ≤ ji6 := by (rw [← hji6]; unfold mx; (repeat' split) <;> omega)))
 (try (have hji6m : 0 ≤ ji6 := by omega))
 have hji6_ : (if a0_2 < 0 then 0 else a0_2) = ji6 := hji6
 obtain ⟨ji7, hji7⟩ : ∃ j_ : Int, (mn (ji6) 255) = j_ := ⟨_, rfl⟩
 replace H : (some (ji3, ji5, ji7)) = some (r1, r2, r3) := by first | (rw [hji7] at H; exact H) | (simp only [hji7] at H ⊢; exact H)
 have hji7_ : (if 255 < (ji6) then 255 else (ji6)) = ji7 := hji7
 simp only [Option.some.injEq, Prod.mk.injEq] at H
 obtain ⟨rfl, rfl, rfl⟩ := H
 go_enter Tryz.func149, Tryz.ntmps149
 go_wp2_with (first | ((with_reducible refine zS (N := 1) rfl ?_); refine yt ?hg (N := 1) ?hd (cs := #[.int .i64 a0_0, .int .i64 a0_1, .int .i64 a0_2]) (t := 201) ?hr ?_; (case hd => rfl); (case hg => rfl); (case hr => first | (go_simp; done) | (go_simp; rfl)); intro gb173 hg w8 hbox hb; have BK173 := zf.mk (hbox); have GW173 := zf.mk ((by rw [hg]; exact (zq (HB.out)) : w.heap.size ≤ gb173)); have GE173 := zf.mk ((by rw [hg]; exact (zq (HB.out)) : w.heap.size ≤ gb173)); replace HB := zf.mk (zH (HB.out) hb); clear hb hbox hg) | ((with_reducible refine zS (N := 2) rfl ?_); refine yt ?hg (N := 2) ?hd (cs := #[.int .i64 0, .int .i64 0, .int .i64 0]) (t := 201) ?hr ?_; (case hd => rfl); (case hg => rfl); (case hr => first | (go_simp; done) | (go_simp; rfl)); intro gb174 hg w9 hbox hb; have BK174 := zf.mk (hbox); have GW174 := zf.mk ((by rw [hg]; exact (zq (HB.out)) : w.heap.size ≤ gb174)); have GE174 := zf.mk ((by rw [hg]; exact (zq (HB.out)) : w.heap.size ≤ gb174)); replace HB := zf.mk (zH (HB.out) hb); have NB173_174 := zf.mk ((by rw [hg]; exact Nat.ne_of_lt (zF (g := gb173) (o := .cells #[.int .i64 a0_0, .int .i64 a0_1, .int .i64 a0_2] 201 (0, 0)) (BK173.out)) : gb173 ≠ gb174)); have NB174_173 := zf.mk ((by rw [hg]; exact Nat.ne_of_gt (zF (g := gb173) (o := .cells #[.int .i64 a0_0, .int .i64 a0_1, .int .i64 a0_2] 201 (0, 0)) (BK173.out)) : gb174 ≠ gb173)); replace BK173 := zf.mk (zb BK173.out hb); clear hb hbox hg; have hnb10 := NB173_174.out; have hnc10 := NB174_173.out; obtain ⟨hcz11_0, hcz11_1, hcz11_2⟩ := zV BK173.out; obtain ⟨hfz11_0, hfz11_1, hfz11_2⟩ := xq BK173.out; obtain ⟨hcz12_0, hcz12_1, hcz12_2⟩ := zV BK174.out; obtain ⟨hfz12_0, hfz12_1, hfz12_2⟩ := xq BK174.out))
 refine bodyPost_ret (results_cell_row rfl _ _ gb174 201 #[.int .i64 ji3, .int .i64 ji5, .int .i64 ji7] (0, 0) _ rfl (by (with_reducible repeat (first | refine zl ?_ _ | refine zo ?_ | refine zg ?_ _)); refine zO (cs := #[.int .i64 ji3, .int .i64 ji5, .int .i64 0]) ?_ 2 _ rfl; (with_reducible repeat (first | refine zl ?_ _ | refine zo ?_ | refine zg ?_ _)); refine zO (cs := #[.int .i64 ji3, .int .i64 0, .int .i64 0]) ?_ 1 _ rfl; (with_reducible repeat (first | refine zl ?_ _ | refine zo ?_ | refine zg ?_ _)); refine zO (cs := #[.int .i64 0, .int .i64 0, .int .i64 0]) ?_ 0 _ rfl; (with_reducible repeat (first | refine zl ?_ _ | refine zo ?_ | refine zg ?_ _)); exact BK174.out) Tryz.underlying201 rfl (by kernel_rfl)) rfl ?_
 exact ⟨by first | rfl | (simp [zD, zC] <;> rfl) | (simp only [← hji2, ← hji3, ← hji4, ← hji5, ← hji6, ← hji7]; first | rfl | (simp [zD, zC] <;> rfl)) | (simp [*, zD, zC] <;> rfl), by repeat (first | (with_reducible first | exact HB.out | apply zn | apply zt | apply zM | refine zP ?_ GE173.out | refine zP ?_ GE174.out) | exact HB.out)⟩
def yR.f (l0 : List Int) (a1 : Int) : Option (Int × Bool) := if a1 < 0 then (some (0, false)) else (if (wrap64 ((l0.length : Int) - a1)) < 2 then (some (0, false)) else (if 0 ≤ a1 then (if a1 < (l0.length : Int) then (if 0 ≤ (wrap64 (a1 + 1)) then (if (wrap64 (a1 + 1)) < (l0.length : Int) then (some (Go.bits .or .u16 (IntKind.u16.wrap ((IntKind.u16.wrap (rd l0 a1)) * 256)) (IntKind.u16.wrap (rd l0 (wrap64 (a1 + 1)))), true)) else (none)) else (none)) else (none)) else (none)))
theorem yR.calls (A0 : Option Addr) (c0 : Nat) (l0 : List Int) (a1 : Int) (r1 : Int) (r2 : Bool) (w : World) (hr0 : Kd.C (Kd.int .u8) w A0 l0.length l0) (hc0 : l0.length ≤ c0) (h : yR.f l0 a1 = some (r1, r2)) :
  Calls Tryz.prog 202 #[.slice A0 l0.length c0, .int .i64 a1] w fun e w' => e = .returned (.tuple #[.int .u16 r1, .bool r2]) ∧ zx w w' := by
 have HR0 := zf.mk hr0
 have HC0 := zf.mk hc0
 clear hr0 hc0
 have H : (if a1 < 0 then (some (0, false)) else (if (wrap64 ((l0.length : Int) - a1)) < 2 then (some (0, false)) else (if 0 ≤ a1 then (if a1 < (l0.length : Int) then (if 0 ≤ (wrap64 (a1 + 1)) then (if (wrap64 (a1 + 1)) < (l0.length : Int) then (some (Go.bits .or .u16 (IntKind.u16.wrap ((IntKind.u16.wrap (rd l0 a1)) * 256)) (IntKind.u16.wrap (rd l0 (wrap64 (a1 + 1)))), true)) else (none)) else (none)) else (none)) else (none)))) = some (r1, r2) := h
 clear h
 by_cases c3 : a1 < 0
 ·
  rw [if_pos c3] at H
  have c3b0 : decide (a1 < 0) = true := dT c3
  clear c3
  simp only [Option.some.injEq, Prod.mk.injEq] at H
  obtain ⟨rfl, rfl⟩ := H
  go_enter Tryz.func202, Tryz.ntmps202
  go_wp2
  repeat (go_quiet (fail); try go_wp2)
  go_ret2
  exact ⟨by first | rfl | (simp; done) | (simp [*]; done), by repeat (first | exact zx.refl _ | apply zx.step)⟩
 ·
  rw [if_neg c3] at H
  have c3b0 : decide (a1 < 0) = false := dF c3
  clear c3
  by_cases c4 : (wrap64 ((l0.length : Int) - a1)) < 2
  ·
   rw [if_pos c4] at H
   have c4b0 : decide ((wrap64 ((l0.length : Int) - a1)) < 2) = true := dT c4
   clear c4
   simp only [Option.some.injEq, Prod.mk.injEq] at H
   obtain ⟨rfl, rfl⟩ := H
   go_enter Tryz.func202, Tryz.ntmps202
   go_wp2
   repeat (go_quiet (fail); try go_wp2)
   go_ret2
   exact ⟨by first | rfl | (simp; done) | (simp [*]; done), by repeat (first | exact zx.refl _ | apply zx.step)⟩
  ·
   rw [if_neg c4] at H
   have c4b0 : decide ((wrap64 ((l0.length : Int) - a1)) < 2) = false := dF c4
   clear c4
   by_cases c5 : 0 ≤ a1
   ·
    rw [if_pos c5] at H
    have c5b0 : decide (0 ≤ a1) = true := dT c5
    clear c5
    by_cases c6 : a1 < (l0.length : Int)
    ·
     rw [if_pos c6] at H
     have c6b0 : decide (a1 < (l0.length : Int)) = true := dT c6
     clear c6
     obtain ⟨ji7, hji7⟩ : ∃ j_ : Int, (wrap64 (a1 + 1)) = j_ := ⟨_, rfl⟩
     replace H : (if 0 ≤ (ji7) then (if (ji7) < (l0.length : Int) then (some (Go.bits .or .u16 (IntKind.u16.wrap ((IntKind.u16.wrap (rd l0 a1)) * 256)) (IntKind.u16.wrap (rd l0 (ji7))), true)) else (none)) else (none)) = some (r1, r2) := by first | (rw [hji7] at H; exact H) | (simp only [hji7] at H ⊢; exact H)
     have hji7w : (IntKind.i64.wrap (a1 + 1)) = ji7 := (yX _).trans hji7
     by_cases c8 : 0 ≤ (ji7)
     ·
      rw [if_pos c8] at H
      have c8b0 : decide (0 ≤ (ji7)) = true := dT c8
      clear c8
      by_cases c9 : (ji7) < (l0.length : Int)
      ·
       rw [if_pos c9] at H
       have c9b0 : decide ((ji7) < (l0.length : Int)) = true := dT c9
       clear c9
       simp only [Option.some.injEq, Prod.mk.injEq] at H
       obtain ⟨rfl, rfl⟩ := H
       have p175 : 0 ≤ (a1 : Int) := of_decide_eq_true (by first | (with_reducible assumption) | assumption)
       have q175 : a1 < (l0.length : Int) := of_decide_eq_true (by first | (with_reducible assumption) | assumption)
       obtain ⟨ad175, e175, hx175_0⟩ := Kd.kz HR0.out a1 p175 q175
       cases e175
       replace p175 := eq_true p175
       replace q175 := eq_true q175
       have p176 : 0 ≤ ((ji7) : Int) := of_decide_eq_true (by first | (with_reducible assumption) | assumption)
       have q176 : (ji7) < (l0.length : Int) := of_decide_eq_true (by first | (with_reducible assumption) | assumption)
       obtain ⟨ad176, e176, hx176_0⟩ := Kd.kz HR0.out (ji7) p176 q176
       obtain rfl : ad175 = ad176 := (by injection e176)
       replace p176 := eq_true p176
       replace q176 := eq_true q176
       go_enter Tryz.func202, Tryz.ntmps202
       go_wp2
       repeat (go_quiet (fail); try go_wp2)
       go_ret2
       exact ⟨by first | rfl | (simp; done) | (simp only [← hji7] <;> (first | rfl | simp)) | (simp [*]; done), by repeat (first | exact zx.refl _ | apply zx.step)⟩
      ·
       rw [if_neg c9] at H
       exact absurd H (by simp)
     ·
      rw [if_neg c8] at H
      exact absurd H (by simp)
    ·
     rw [if_neg c6] at H
     exact absurd H (by simp)
   ·
    rw [if_neg c5] at H
    exact absurd H (by simp)
end Go.Proofs.YtlalbohhopmpdaaGreat.PTop
namespace Go.Proofs.YtlalbohhopmpdaaGreat.Top
open Go.RowKit Go.Proofs.YtlalbohhopmpdaaGreat.PTop Go.YW.PrintWords Go.YW.PrintLast Go.YW.PrintMore Go.Proofs.YtlalbohhopmpdaaGreat.Num
attribute [local go_sem] zm zu
theorem VN (hi lo : Int) (rest : List Int) (h1 : 0 ≤ hi ∧ hi < 256) (h : 0 ≤ lo ∧ lo < 256) (hr : rest.length ≤ 1000) : yR.f (hi :: lo :: rest) 0 = some (hi * 256 + lo, true) := by
  unfold yR.f
  have e1 : ¬ (wrap64 (((hi :: lo :: rest : List Int).length : Int) - 0) < 2) := by
    rw [zA (by simp; omega) (by simp; omega)]
    simp
    omega
  have e0 : wrap64 (0 + 1) = 1 := zA (by omega) (by omega)
  rw [if_neg (by omega), if_neg e1, if_pos (by omega), if_pos (by simp; omega), e0, if_pos (by omega), if_pos (by simp; omega)]
  have e2 : rd (hi :: lo :: rest) 1 = lo := by simp [rd]
  have e3 : rd (hi :: lo :: rest) 0 = hi := by simp [rd]
  have e4 : IntKind.u16.wrap lo = lo := by show lo % 65536 = lo; omega
  have e5 : IntKind.u16.wrap (IntKind.u16.wrap hi * 256) = hi * 256 := by show (hi % 65536 * 256) % 65536 = hi * 256; omega
  rw [e2, e3, e4]
  first
    | rw [e5, ZM (hi * 256) lo (by omega) (by omega) (by omega) h.1 h.2]
    | (show some (bits .or .u16 (IntKind.u16.wrap (IntKind.u16.wrap hi * 256)) lo, true) = _
       rw [e5, ZM (hi * 256) lo (by omega) (by omega) (by omega) h.1 h.2])
structure jB (w : World) (cb : Nat) (l : List Int) (A : Option Addr) (c : Nat) : Prop where
  blk : w.heap[cb]? = some (.cells #[.slice A l.length c, .bool false] 228 (0, 0))
  row : Kd.C (Kd.int .u8) w A l.length l
  le : l.length ≤ c
  lt : ∀ ad, A = some ad → ad.block < cb
theorem vJ (w : World) (cb i m : Nat) (v : Value) : w.grownBy ((w.setCell ⟨cb, i, none⟩ v).drewN m) (some cb) :=
  ⟨rfl, rfl, rfl, by simp [World.setCell], fun k _ hk => Below.heap_setCell w ⟨cb, i, none⟩ v k (fun e => hk (by rw [e]))⟩
theorem Xi {w w1 : World} {cb : Nat} (h : w.grownBy w1 (some cb)) : jX w w1 cb none := ⟨h.size, fun i hi hne _ => h.block i hi (fun e => hne (by injection e))⟩
theorem jB.set {w : World} {cb : Nat} {l rest : List Int} {A A' : Option Addr} {c c' m : Nat} (h : jB w cb l A c) (hr : Kd.C (Kd.int .u8) w A' rest.length rest) (hl : rest.length ≤ c') (hlt : ∀ ad, A' = some ad → ad.block < cb) :
    jB ((w.setCell ⟨cb, 0, none⟩ (.slice A' rest.length c')).drewN m) cb rest A' c' := by
  have hg := vJ w cb 0 m (.slice A' rest.length c')
  refine ⟨?_, Kd.zaY (0 : Int) hr (Xi hg) (fun ad e _ => Nat.ne_of_lt (hlt ad e)), hl, hlt⟩
  have := xD h.blk 0 (.slice A' rest.length c')
  exact this
theorem Jk (w : World) (cb : Nat) (hi lo : Int) (rest : List Int) (A : Option Addr) (c : Nat) (h : jB w cb (hi :: lo :: rest) A c) (hhi : 0 ≤ hi ∧ hi < 256) (hlo : 0 ≤ lo ∧ lo < 256) (hr : rest.length ≤ 1000) (x : Int) (hx : hi * 256 + lo = x) :
    Calls Tryz.prog 163 #[.pointer (some ⟨cb, 0, none⟩)] w fun e w' => e = .returned (.int .u16 x) ∧ (∃ A' c', jB w' cb rest A' c') ∧ w.grownBy w' (some cb) := by
  have hu228 := Tryz.underlying228
  have hg2 := VN hi lo rest hhi hlo hr
  rw [hx] at hg2
  have c0 : w.cell? ⟨cb, 0, none⟩ = some (.slice A (hi :: lo :: rest).length c) := za h.blk 0
  have z0 : w.frozen? ⟨cb, 0, none⟩ = false := zh h.blk 0
  have HC := hQ h
  have HR := hQ hr
  have HG := hQ hg2
  clear h hr hlo hhi hg2 hx
  go_enter Tryz.func163, Tryz.ntmps163
  go_wp2_with (fail)
  refine (yR.calls A c (hi :: lo :: rest) 0 x true w HC.out.row HC.out.le HG.out).mono ?_
  rintro e w2 ⟨rfl, ⟨m, rfl⟩⟩
  have hd := Kd.QA (m := 2) HC.out.row (by simp) HC.out.le
  go_wp2
  all_goals
    go_ret
  · obtain ⟨h0, h1⟩ : c = 2 ∧ rest = [] := by
      have := HC.out.le
      simp at this
      exact ⟨by assumption, List.eq_nil_of_length_eq_zero (by omega)⟩
    subst h1
    refine ⟨rfl, ⟨A, 0, jB.set HC.out ?_ (by simp) HC.out.lt⟩, vJ _ _ _ _ _⟩
    rw [if_pos h0] at hd
    exact hd
  · refine ⟨rfl, ⟨A.map (·.add 2), c - 2, jB.set HC.out ?_ (by have := HC.out.le; simp at this; omega) ?_⟩, vJ _ _ _ _ _⟩
    · rw [if_neg (by assumption)] at hd
      exact hd
    · intro ad e
      cases A with
      | none => cases e
      | some a =>
        cases e
        exact HC.out.lt a rfl
theorem ZI (w : World) (cb : Nat) (lo : Int) (rest : List Int) (A : Option Addr) (c : Nat) (h : jB w cb (0 :: lo :: rest) A c) (hlo : 0 ≤ lo ∧ lo < 256) (hr : rest.length ≤ 1000) :
    Calls Tryz.prog 161 #[.pointer (some ⟨cb, 0, none⟩)] w fun e w' => e = .returned (.int .i64 lo) ∧ (∃ A' c', jB w' cb rest A' c') ∧ w.grownBy w' (some cb) := by
  have HC := hQ h
  have HR := hQ hr
  have HLO := hQ hlo
  have hw : wrap64 lo = lo := zA (by omega) (by omega)
  clear h hr hlo
  go_enter Tryz.func161, Tryz.ntmps161
  go_wp2_with (fail)
  refine (Jk w cb 0 lo rest A c HC.out (by omega) HLO.out HR.out lo (by omega)).mono ?_
  rintro e w2 ⟨rfl, h2, g2⟩
  have H2 := hQ h2
  have G2 := hQ g2
  clear h2 g2
  go_wp2
  go_ret
  exact ⟨congrArg (fun n => Ending.returned (.int .i64 n)) hw, H2.out, G2.out⟩
def jf (at_ n : Int) : Value := .agg #[.int .i64 3, .int .i64 at_, .int .i64 n, .int .u16 0, .int .u16 0, .int .u16 0, .slice none 0 0, .slice none 0 0, .int .i64 0, .int .i64 0, .int .i64 0, .int .i64 0]
def qd (at_ v : Int) : Value := .agg #[.int .i64 6, .int .i64 at_, .int .i64 0, .int .u16 v, .int .u16 0, .int .u16 0, .slice none 0 0, .slice none 0 0, .int .i64 0, .int .i64 0, .int .i64 0, .int .i64 0]
theorem jB.grown {w w1 : World} {cb : Nat} {l : List Int} {A : Option Addr} {c : Nat} (h : jB w cb l A c) (hb : Below w.heap.size w w1) : jB w1 cb l A c :=
  ⟨zb h.blk hb, Kd.zz h.row hb, h.le, h.lt⟩
theorem zW {w : World} {g t : Nat} {v0 v1 v2 v3 v4 v5 v6 v7 v8 v9 v10 v11 : Value} (h : w.heap[g]? = some (.cells #[v0, v1, v2, v3, v4, v5, v6, v7, v8, v9, v10, v11] t (0, 0))) :
    w.cell? ⟨g, 0, none⟩ = some v0 ∧ w.cell? ⟨g, 1, none⟩ = some v1 ∧ w.cell? ⟨g, 2, none⟩ = some v2 ∧ w.cell? ⟨g, 3, none⟩ = some v3 ∧ w.cell? ⟨g, 4, none⟩ = some v4 ∧ w.cell? ⟨g, 5, none⟩ = some v5 ∧ w.cell? ⟨g, 6, none⟩ = some v6 ∧ w.cell? ⟨g, 7, none⟩ = some v7 ∧ w.cell? ⟨g, 8, none⟩ = some v8 ∧ w.cell? ⟨g, 9, none⟩ = some v9 ∧ w.cell? ⟨g, 10, none⟩ = some v10 ∧ w.cell? ⟨g, 11, none⟩ = some v11 := ⟨za h 0, za h 1, za h 2, za h 3, za h 4, za h 5, za h 6, za h 7, za h 8, za h 9, za h 10, za h 11⟩
theorem jc {B g j : Nat} {a W : World} {v : Value} (h : Below B a W) (hg : B ≤ g) : Below B a (W.setCell ⟨g, j, none⟩ v) := h.setCell hg _
theorem jB.nil {w w1 : World} {cb : Nat} {A : Option Addr} {c B : Nat} (h : jB w cb [] A c) (hcb : cb < B) (hb : Below B w w1) : jB w1 cb [] A c :=
  ⟨(hb.block cb hcb).trans h.blk, ⟨rfl, by simp, fun h => absurd h (Nat.lt_irrefl 0)⟩, h.le, h.lt⟩
theorem jB.far {w : World} {cb : Nat} {l : List Int} {A : Option Addr} {c : Nat} (h : jB w cb l A c) {g i : Nat} {v : Value} (hg : cb < g) : jB (w.setCell ⟨g, i, none⟩ v) cb l A c := by
  have hk := vJ w g i 0 v
  refine ⟨yG h.blk hk (fun e => by injection e; omega), Kd.zaY (0 : Int) h.row (Xi hk) (fun ad e _ => by have := h.lt ad e; omega), h.le, h.lt⟩
def yL : Array Value := #[.int .i64 0, .int .i64 0, .int .i64 0, .int .u16 0, .int .u16 0, .int .u16 0, .slice none 0 0, .slice none 0 0, .int .i64 0, .int .i64 0, .int .i64 0, .int .i64 0]
def jL (k : Int) : Array Value := #[.int .i64 k, .int .i64 0, .int .i64 0, .int .u16 0, .int .u16 0, .int .u16 0, .slice none 0 0, .slice none 0 0, .int .i64 0, .int .i64 0, .int .i64 0, .int .i64 0]
theorem Zt {w w1 w2 w3 : World} {cb : Nat} (h : Below w.heap.size w w1) (h2 : w1.grownBy w2 (some cb)) (h3 : Below w.heap.size w2 w3) : w.grownBy w3 (some cb) :=
  ⟨h3.os.trans (h2.os.trans h.os), h3.tape.trans (h2.tape.trans h.tape), h3.output.trans (h2.output.trans h.output), Nat.le_trans h.size (Nat.le_trans h2.size h3.size), fun k hk hne => (h3.block k hk).trans ((h2.block k (Nat.lt_of_lt_of_le hk h.size) hne).trans (h.block k hk))⟩
theorem WN (w : World) (cb : Nat) (a n : Int) (A : Option Addr) (c : Nat) (h : jB w cb [0, a, 0, n] A c) (ha : 0 ≤ a ∧ a < 256) (hn : 0 ≤ n ∧ n < 256) :
    Calls Tryz.prog 133 #[.pointer (some ⟨cb, 0, none⟩), .int .i64 3] w fun e w' => e = .returned (jf a n) ∧ (∃ A' c', jB w' cb [] A' c') ∧ w.grownBy w' (some cb) := by
  have hu37 := Tryz.underlying37
  obtain ⟨W1, hW1⟩ : ∃ W1, W1 = (w.alloc (.cells yL 37)).alloc (.cells (jL 3) 37) := ⟨_, rfl⟩
  have B1 := hQ (show Below w.heap.size w W1 by rw [hW1]; exact ((Below.refl _ _).alloc (Nat.le_refl _) _).alloc (by simp) _)
  have X1 := hQ (show W1.heap[w.heap.size]? = some (.cells yL 37 (0, 0)) by rw [hW1]; exact zg (zi w _) _)
  have Y1 := hQ (show W1.heap[w.heap.size + 1]? = some (.cells (jL 3) 37 (0, 0)) by rw [hW1]; have h := zi (w.alloc (.cells yL 37)) (.cells (jL 3) 37); rw [show (w.alloc (.cells yL 37)).heap.size = w.heap.size + 1 by simp] at h; exact h)
  have hlt := zF h.blk
  have HC := hQ (h.grown B1.out)
  have HA := hQ ha
  have HN := hQ hn
  have HLT := hQ hlt
  clear h ha hn hlt
  simp only [yL, jL] at hW1
  go_enter Tryz.func133, Tryz.ntmps133
  go_wp2_with (fail)
  rw [← hW1]
  clear hW1
  refine (ZI W1 cb a [0, n] A c HC.out HA.out (by simp)).mono ?_
  rintro e w2 ⟨rfl, ⟨A2, c2, h2⟩, g2⟩
  have HC2 := hQ h2
  have G2 := hQ g2
  clear h2 g2
  go_wp2_with (fail)
  refine (ZI w2 cb n [] A2 c2 HC2.out HN.out (by simp)).mono ?_
  rintro e w3 ⟨rfl, ⟨A3, c3, h3⟩, g3⟩
  have HC3 := hQ h3
  have hne : some w.heap.size ≠ some cb := by have := HLT.out; intro e; injection e; omega
  have hne1 : some (w.heap.size + 1) ≠ some cb := by have := HLT.out; intro e; injection e; omega
  have X3 := hQ (yG (yG X1.out G2.out hne) g3 hne)
  have Y3 := hQ (yG (yG Y1.out G2.out hne1) g3 hne1)
  have G3 := hQ (G2.out.trans g3)
  clear h3 g3 hne hne1
  obtain ⟨y0, y1, y2, y3, y4, y5, y6, y7, y8, y9, y10, y11⟩ := zW Y3.out
  obtain ⟨x0, x1, x2, x3, x4, x5, x6, x7, x8, x9, x10, x11⟩ := zW X3.out
  have fy : ∀ i, w3.frozen? ⟨w.heap.size + 1, i, none⟩ = false := fun i => zh Y3.out i
  have fx : ∀ i, w3.frozen? ⟨w.heap.size, i, none⟩ = false := fun i => zh X3.out i
  go_wp2
  refine bodyPost_ret (v := jf a n) ?_ rfl ⟨rfl, ⟨A3, c3, jB.nil HC3.out HLT.out ?_⟩, Zt B1.out G3.out ?_⟩
  · simp [results, Tryz.results133, go_sem, hu37, x0, x1, x2, x3, x4, x5, x6, x7, x8, x9, x10, x11, jf]
  · (repeat (with_reducible first | exact Below.refl _ _ | (refine jc ?_ (by omega))))
  · (repeat (with_reducible first | exact Below.refl _ _ | (refine jc ?_ (by omega))))
theorem zaH (w : World) (cb : Nat) (a v : Int) (A : Option Addr) (c : Nat) (h : jB w cb [0, a, v / 256, v % 256] A c) (ha : 0 ≤ a ∧ a < 256) (hn : 0 ≤ v ∧ v < 65536) :
    Calls Tryz.prog 133 #[.pointer (some ⟨cb, 0, none⟩), .int .i64 6] w fun e w' => e = .returned (qd a v) ∧ (∃ A' c', jB w' cb [] A' c') ∧ w.grownBy w' (some cb) := by
  have hu37 := Tryz.underlying37
  obtain ⟨W1, hW1⟩ : ∃ W1, W1 = (w.alloc (.cells yL 37)).alloc (.cells (jL 6) 37) := ⟨_, rfl⟩
  have B1 := hQ (show Below w.heap.size w W1 by rw [hW1]; exact ((Below.refl _ _).alloc (Nat.le_refl _) _).alloc (by simp) _)
  have X1 := hQ (show W1.heap[w.heap.size]? = some (.cells yL 37 (0, 0)) by rw [hW1]; exact zg (zi w _) _)
  have Y1 := hQ (show W1.heap[w.heap.size + 1]? = some (.cells (jL 6) 37 (0, 0)) by rw [hW1]; have h := zi (w.alloc (.cells yL 37)) (.cells (jL 6) 37); rw [show (w.alloc (.cells yL 37)).heap.size = w.heap.size + 1 by simp] at h; exact h)
  have hlt := zF h.blk
  have HC := hQ (h.grown B1.out)
  have HA := hQ ha
  have HN := hQ hn
  have HLT := hQ hlt
  clear h ha hn hlt
  simp only [yL, jL] at hW1
  go_enter Tryz.func133, Tryz.ntmps133
  go_wp2_with (fail)
  rw [← hW1]
  clear hW1
  refine (ZI W1 cb a [v / 256, v % 256] A c HC.out HA.out (by simp)).mono ?_
  rintro e w2 ⟨rfl, ⟨A2, c2, h2⟩, g2⟩
  have HC2 := hQ h2
  have G2 := hQ g2
  have hne : some w.heap.size ≠ some cb := by have := HLT.out; intro e; injection e; omega
  have hne1 : some (w.heap.size + 1) ≠ some cb := by have := HLT.out; intro e; injection e; omega
  have X2 := hQ (yG X1.out g2 hne)
  have Y2 := hQ (yG Y1.out g2 hne1)
  clear h2 g2 hne hne1
  have fy : ∀ i, w2.frozen? ⟨w.heap.size + 1, i, none⟩ = false := fun i => zh Y2.out i
  obtain ⟨y0, y1, y2, y3, y4, y5, y6, y7, y8, y9, y10, y11⟩ := zW Y2.out
  go_wp2_with (fail)
  refine (Jk _ cb (v / 256) (v % 256) [] A2 c2 (HC2.out.far (by have := HLT.out; omega)) (by have := HN.out; omega) (by omega) (by simp) v (by omega)).mono ?_
  rintro e w3 ⟨rfl, ⟨A3, c3, h3⟩, g3⟩
  have HC3 := hQ h3
  have hne : some w.heap.size ≠ some cb := by have := HLT.out; intro e; injection e; omega
  have hne1 : some (w.heap.size + 1) ≠ some cb := by have := HLT.out; intro e; injection e; omega
  have X3 := hQ (yG (yJ X2.out (by simp) _) g3 hne)
  have Y3 := hQ (yG (xD Y2.out 1 (.int .i64 a)) g3 hne1)
  have G3 := hQ (show w.grownBy w3 (some cb) from (Zt B1.out G2.out (jc (Below.refl _ _) (by omega))).trans g3)
  clear h3 g3 hne hne1 fy y0 y1 y2 y3 y4 y5 y6 y7 y8 y9 y10 y11
  obtain ⟨y0, y1, y2, y3, y4, y5, y6, y7, y8, y9, y10, y11⟩ := zW Y3.out
  obtain ⟨x0, x1, x2, x3, x4, x5, x6, x7, x8, x9, x10, x11⟩ := zW X3.out
  have fy : ∀ i, w3.frozen? ⟨w.heap.size + 1, i, none⟩ = false := fun i => zh Y3.out i
  have fx : ∀ i, w3.frozen? ⟨w.heap.size, i, none⟩ = false := fun i => zh X3.out i
  go_wp2
  refine bodyPost_ret (v := qd a v) ?_ rfl ⟨rfl, ⟨A3, c3, jB.nil HC3.out HLT.out ?_⟩, Zt (Below.refl _ _) G3.out ?_⟩
  · simp [results, Tryz.results133, go_sem, hu37, x0, x1, x2, x3, x4, x5, x6, x7, x8, x9, x10, x11, qd]
  · (repeat (with_reducible first | exact Below.refl _ _ | (refine jc ?_ (by omega))))
  · (repeat (with_reducible first | exact Below.refl _ _ | (refine jc ?_ (by omega))))
theorem YD (w : World) (a b c : Obj) : (((w.alloc a).alloc b).alloc c).heap[w.heap.size + 1 + 1]? = some c := by
  have h := zi ((w.alloc a).alloc b) c
  rw [show ((w.alloc a).alloc b).heap.size = w.heap.size + 1 + 1 by simp] at h
  exact h
theorem vB (w : World) (a b : Obj) : ((w.alloc a).alloc b).heap[w.heap.size + 1]? = some b := by
  have h := zi (w.alloc a) b
  rw [show (w.alloc a).heap.size = w.heap.size + 1 by simp] at h
  exact h
theorem zct (w : World) (a n : Int) :
    Calls Tryz.prog 168 #[jf a n] w fun e w' => e = .returned (jf a n) ∧ Below w.heap.size w w' := by
  have hu37 := Tryz.underlying37
  obtain ⟨W3, hW3⟩ : ∃ W3, W3 = ((w.alloc (.cells #[.int .i64 3, .int .i64 a, .int .i64 n, .int .u16 0, .int .u16 0, .int .u16 0, .slice none 0 0, .slice none 0 0, .int .i64 0, .int .i64 0, .int .i64 0, .int .i64 0] 37)).alloc (.cells yL 37)).alloc (.cells (jL 3) 37) := ⟨_, rfl⟩
  have B3 := hQ (show Below w.heap.size w W3 by rw [hW3]; exact (((Below.refl _ _).alloc (Nat.le_refl _) _).alloc (by simp) _).alloc (by simp; omega) _)
  have X3 := hQ (show W3.heap[w.heap.size]? = some (.cells #[.int .i64 3, .int .i64 a, .int .i64 n, .int .u16 0, .int .u16 0, .int .u16 0, .slice none 0 0, .slice none 0 0, .int .i64 0, .int .i64 0, .int .i64 0, .int .i64 0] 37 (0, 0)) by rw [hW3]; exact zg (zg (zi w _) _) _)
  have Y3 := hQ (show W3.heap[w.heap.size + 1]? = some (.cells yL 37 (0, 0)) by rw [hW3]; exact zg (vB w _ _) _)
  have Z3 := hQ (show W3.heap[w.heap.size + 1 + 1]? = some (.cells (jL 3) 37 (0, 0)) by rw [hW3]; exact YD w _ _ _)
  obtain ⟨x0, x1, x2, x3, x4, x5, x6, x7, x8, x9, x10, x11⟩ := zW (zg (zi w (.cells #[.int .i64 3, .int .i64 a, .int .i64 n, .int .u16 0, .int .u16 0, .int .u16 0, .slice none 0 0, .slice none 0 0, .int .i64 0, .int .i64 0, .int .i64 0, .int .i64 0] 37)) (.cells yL 37))
  obtain ⟨y0, y1, y2, y3, y4, y5, y6, y7, y8, y9, y10, y11⟩ := zW (zg (zg (zi w (.cells #[.int .i64 3, .int .i64 a, .int .i64 n, .int .u16 0, .int .u16 0, .int .u16 0, .slice none 0 0, .slice none 0 0, .int .i64 0, .int .i64 0, .int .i64 0, .int .i64 0] 37)) (.cells yL 37)) (.cells (jL 3) 37))
  simp only [yL, jL] at hW3 Y3 Z3 x0 y0
  simp only [jf]
  go_enter Tryz.func168, Tryz.ntmps168
  go_wp2_with (fail)
  rw [← hW3]
  clear hW3 x0 x1 x2 x3 x4 x5 x6 x7 x8 x9 x10 x11 y0 y1 y2 y3 y4 y5 y6 y7 y8 y9 y10 y11
  obtain ⟨x0, x1, x2, x3, x4, x5, x6, x7, x8, x9, x10, x11⟩ := zW X3.out
  obtain ⟨y0, y1, y2, y3, y4, y5, y6, y7, y8, y9, y10, y11⟩ := zW Y3.out
  obtain ⟨z0, z1, z2, z3, z4, z5, z6, z7, z8, z9, z10, z11⟩ := zW Z3.out
  have fy : ∀ i, W3.frozen? ⟨w.heap.size + 1, i, none⟩ = false := fun i => zh Y3.out i
  have fz : ∀ i, W3.frozen? ⟨w.heap.size + 1 + 1, i, none⟩ = false := fun i => zh Z3.out i
  go_region
  go_wp2
  refine bodyPost_ret (v := .agg #[.int .i64 3, .int .i64 a, .int .i64 n, .int .u16 0, .int .u16 0, .int .u16 0, .slice none 0 0, .slice none 0 0, .int .i64 0, .int .i64 0, .int .i64 0, .int .i64 0]) ?_ rfl ⟨rfl, B3.out.trans ?_⟩
  · simp [results, Tryz.results168, go_sem, hu37, y0, y1, y2, y3, y4, y5, y6, y7, y8, y9, y10, y11]
  · refine Below.trans ?_ (zk (Below.refl _ _))
    (repeat (with_reducible first | exact Below.refl _ _ | (refine jc ?_ (by omega))))
theorem zcG (w : World) (a v : Int) :
    Calls Tryz.prog 168 #[qd a v] w fun e w' => e = .returned (qd a v) ∧ Below w.heap.size w w' := by
  have hu37 := Tryz.underlying37
  obtain ⟨W3, hW3⟩ : ∃ W3, W3 = ((w.alloc (.cells #[.int .i64 6, .int .i64 a, .int .i64 0, .int .u16 v, .int .u16 0, .int .u16 0, .slice none 0 0, .slice none 0 0, .int .i64 0, .int .i64 0, .int .i64 0, .int .i64 0] 37)).alloc (.cells yL 37)).alloc (.cells (jL 6) 37) := ⟨_, rfl⟩
  have B3 := hQ (show Below w.heap.size w W3 by rw [hW3]; exact (((Below.refl _ _).alloc (Nat.le_refl _) _).alloc (by simp) _).alloc (by simp; omega) _)
  have X3 := hQ (show W3.heap[w.heap.size]? = some (.cells #[.int .i64 6, .int .i64 a, .int .i64 0, .int .u16 v, .int .u16 0, .int .u16 0, .slice none 0 0, .slice none 0 0, .int .i64 0, .int .i64 0, .int .i64 0, .int .i64 0] 37 (0, 0)) by rw [hW3]; exact zg (zg (zi w _) _) _)
  have Y3 := hQ (show W3.heap[w.heap.size + 1]? = some (.cells yL 37 (0, 0)) by rw [hW3]; exact zg (vB w _ _) _)
  have Z3 := hQ (show W3.heap[w.heap.size + 1 + 1]? = some (.cells (jL 6) 37 (0, 0)) by rw [hW3]; exact YD w _ _ _)
  obtain ⟨x0, x1, x2, x3, x4, x5, x6, x7, x8, x9, x10, x11⟩ := zW (zg (zi w (.cells #[.int .i64 6, .int .i64 a, .int .i64 0, .int .u16 v, .int .u16 0, .int .u16 0, .slice none 0 0, .slice none 0 0, .int .i64 0, .int .i64 0, .int .i64 0, .int .i64 0] 37)) (.cells yL 37))
  obtain ⟨y0, y1, y2, y3, y4, y5, y6, y7, y8, y9, y10, y11⟩ := zW (zg (zg (zi w (.cells #[.int .i64 6, .int .i64 a, .int .i64 0, .int .u16 v, .int .u16 0, .int .u16 0, .slice none 0 0, .slice none 0 0, .int .i64 0, .int .i64 0, .int .i64 0, .int .i64 0] 37)) (.cells yL 37)) (.cells (jL 6) 37))
  simp only [yL, jL] at hW3 Y3 Z3 x0 y0
  simp only [qd]
  go_enter Tryz.func168, Tryz.ntmps168
  go_wp2_with (fail)
  rw [← hW3]
  clear hW3 x0 x1 x2 x3 x4 x5 x6 x7 x8 x9 x10 x11 y0 y1 y2 y3 y4 y5 y6 y7 y8 y9 y10 y11
  obtain ⟨x0, x1, x2, x3, x4, x5, x6, x7, x8, x9, x10, x11⟩ := zW X3.out
  obtain ⟨y0, y1, y2, y3, y4, y5, y6, y7, y8, y9, y10, y11⟩ := zW Y3.out
  obtain ⟨z0, z1, z2, z3, z4, z5, z6, z7, z8, z9, z10, z11⟩ := zW Z3.out
  have fy : ∀ i, W3.frozen? ⟨w.heap.size + 1, i, none⟩ = false := fun i => zh Y3.out i
  have fz : ∀ i, W3.frozen? ⟨w.heap.size + 1 + 1, i, none⟩ = false := fun i => zh Z3.out i
  go_region
  go_wp2
  refine bodyPost_ret (v := .agg #[.int .i64 6, .int .i64 a, .int .i64 0, .int .u16 v, .int .u16 0, .int .u16 0, .slice none 0 0, .slice none 0 0, .int .i64 0, .int .i64 0, .int .i64 0, .int .i64 0]) ?_ rfl ⟨rfl, B3.out.trans ?_⟩
  · simp [results, Tryz.results168, go_sem, hu37, y0, y1, y2, y3, y4, y5, y6, y7, y8, y9, y10, y11]
  · refine Below.trans ?_ (zk (Below.refl _ _))
    (repeat (with_reducible first | exact Below.refl _ _ | (refine jc ?_ (by omega))))
end Go.Proofs.YtlalbohhopmpdaaGreat.Top
namespace Go.Proofs.YtlalbohhopmpdaaGreat.Top
open Go.RowKit Go.Proofs.YtlalbohhopmpdaaGreat.PTop Go.YW.PrintWords Go.YW.PrintLast Go.YW.PrintMore Go.Proofs.YtlalbohhopmpdaaGreat.Num
attribute [local go_sem] yU yT xE xC zm zu
theorem Yr (w : World) (t a b : Int) (r : Bool) (h : 0 ≤ t ∧ t < 4 ∧ 0 ≤ a ∧ b ≤ 65536) (hr : decide (a < b) = r) : Calls Tryz.prog 113 #[.agg #[.int .i64 t, .int .i64 a, .int .i64 b]] w fun e w' => e = .returned (.bool r) ∧ Below w.heap.size w w' := by
  have hu78 := Tryz.underlying78
  obtain ⟨x0, x1, x2⟩ := zV (zi w (.cells #[.int .i64 t, .int .i64 a, .int .i64 b] 78 (0, 0)))
  have B1 := hQ (show Below w.heap.size w (w.alloc (.cells #[.int .i64 t, .int .i64 a, .int .i64 b] 78)) from (Below.refl _ _).alloc (Nat.le_refl _) _)
  have d1 : decide (t ≥ 0) = true := dT h.1
  have d2 : decide (t < 4) = true := dT h.2.1
  have d3 : decide (a ≥ 0) = true := dT h.2.2.1
  have d4 : decide (b ≤ 65536) = true := dT h.2.2.2
  clear h
  go_enter Tryz.func113, Tryz.ntmps113
  go_wp2
  exact bodyPost_ret (v := .bool r) (by simp [results, Tryz.results113, go_sem]) rfl ⟨rfl, B1.out⟩
theorem zbD (w : World) (a0 a1 a2 b0 b1 b2 : Int) (h : a0 < b0 ∨ (a0 = b0 ∧ a2 < b1)) : Calls Tryz.prog 125 #[.agg #[.int .i64 a0, .int .i64 a1, .int .i64 a2], .agg #[.int .i64 b0, .int .i64 b1, .int .i64 b2]] w fun e w' => e = .returned (.bool true) ∧ Below w.heap.size w w' := by
  have hu78 := Tryz.underlying78
  obtain ⟨x0, x1, x2⟩ := zV (zg (zi w (.cells #[.int .i64 a0, .int .i64 a1, .int .i64 a2] 78 (0, 0))) (.cells #[.int .i64 b0, .int .i64 b1, .int .i64 b2] 78))
  obtain ⟨y0, y1, y2⟩ := zV (vB w (.cells #[.int .i64 a0, .int .i64 a1, .int .i64 a2] 78) (.cells #[.int .i64 b0, .int .i64 b1, .int .i64 b2] 78 (0, 0)))
  have B1 := hQ (show Below w.heap.size w ((w.alloc (.cells #[.int .i64 a0, .int .i64 a1, .int .i64 a2] 78)).alloc (.cells #[.int .i64 b0, .int .i64 b1, .int .i64 b2] 78)) from ((Below.refl _ _).alloc (Nat.le_refl _) _).alloc (by simp) _)
  by_cases h1 : a0 < b0
  · have d1 : decide (a0 < b0) = true := dT h1
    clear h h1
    go_enter Tryz.func125, Tryz.ntmps125
    go_wp2
    exact bodyPost_ret (v := .bool true) (by simp [results, Tryz.results125, go_sem]) rfl ⟨rfl, B1.out⟩
  · have d1 : decide (a0 < b0) = false := dF h1
    obtain ⟨rfl, h2⟩ := h.resolve_left h1
    have d2 : decide (a2 < b1) = true := dT h2
    clear h h1 h2
    go_enter Tryz.func125, Tryz.ntmps125
    go_wp2
    exact bodyPost_ret (v := .bool true) (by simp [results, Tryz.results125, go_sem]) rfl ⟨rfl, B1.out⟩
def ZQ (x : S78) : Prop := (0 ≤ x.f0 ∧ x.f0 < 4 ∧ 0 ≤ x.f1 ∧ x.f2 ≤ 65536) ∧ x.f1 < x.f2
def Qv (x y : S78) : Prop := x.f0 < y.f0 ∨ (x.f0 = y.f0 ∧ x.f2 < y.f1)
instance (x : S78) : Decidable (ZQ x) := by unfold ZQ; infer_instance
instance (x y : S78) : Decidable (Qv x y) := by unfold Qv; infer_instance
def xx (a b : S78) : S78 := if a.f0 = b.f0 then ⟨a.f0, if a.f1 < b.f1 then b.f1 else a.f1, if b.f2 < a.f2 then b.f2 else a.f2⟩ else ⟨0, 0, 0⟩
theorem Kr (w : World) (a b : S78) : Calls Tryz.prog 126 #[.agg #[.int .i64 a.f0, .int .i64 a.f1, .int .i64 a.f2], .agg #[.int .i64 b.f0, .int .i64 b.f1, .int .i64 b.f2]] w fun e w' => e = .returned (.agg #[.int .i64 (xx a b).f0, .int .i64 (xx a b).f1, .int .i64 (xx a b).f2]) ∧ Below w.heap.size w w' := by
  have hu78 := Tryz.underlying78
  obtain ⟨W3, hW3⟩ : ∃ W3, W3 = ((w.alloc (.cells #[.int .i64 a.f0, .int .i64 a.f1, .int .i64 a.f2] 78)).alloc (.cells #[.int .i64 b.f0, .int .i64 b.f1, .int .i64 b.f2] 78)).alloc (.cells #[.int .i64 0, .int .i64 0, .int .i64 0] 78) := ⟨_, rfl⟩
  have B3 := hQ (show Below w.heap.size w W3 by rw [hW3]; exact (((Below.refl _ _).alloc (Nat.le_refl _) _).alloc (by simp) _).alloc (by simp; omega) _)
  have X3 := hQ (show W3.heap[w.heap.size]? = some (.cells #[.int .i64 a.f0, .int .i64 a.f1, .int .i64 a.f2] 78 (0, 0)) by rw [hW3]; exact zg (zg (zi w _) _) _)
  have Y3 := hQ (show W3.heap[w.heap.size + 1]? = some (.cells #[.int .i64 b.f0, .int .i64 b.f1, .int .i64 b.f2] 78 (0, 0)) by rw [hW3]; exact zg (vB w _ _) _)
  have Z3 := hQ (show W3.heap[w.heap.size + 1 + 1]? = some (.cells #[.int .i64 0, .int .i64 0, .int .i64 0] 78 (0, 0)) by rw [hW3]; exact YD w _ _ _)
  rw [hW3] at B3 X3 Y3 Z3
  obtain ⟨x0, x1, x2⟩ := zV X3.out
  obtain ⟨y0, y1, y2⟩ := zV Y3.out
  obtain ⟨z0, z1, z2⟩ := zV Z3.out
  have fz := fun i => zh Z3.out i
  clear hW3
  by_cases h : a.f0 = b.f0
  · have HF := hQ (show xx a b = ⟨a.f0, if a.f1 < b.f1 then b.f1 else a.f1, if b.f2 < a.f2 then b.f2 else a.f2⟩ from if_pos h)
    rw [HF.out]
    have d1 : (a.f0 = b.f0) = True := eq_true h
    have d3 : (a.f0 != b.f0) = false := by simpa using h
    obtain ⟨mx, hmx⟩ : ∃ m, (if a.f1 < b.f1 then b.f1 else a.f1) = m := ⟨_, rfl⟩
    obtain ⟨mn, hmn⟩ : ∃ m, (if b.f2 < a.f2 then b.f2 else a.f2) = m := ⟨_, rfl⟩
    simp only [hmx, hmn]
    clear h
    go_enter Tryz.func126, Tryz.ntmps126
    go_wp2
    refine bodyPost_ret (v := .agg #[.int .i64 a.f0, .int .i64 mx, .int .i64 mn]) ?_ rfl ⟨rfl, (((Below.refl _ _).alloc (Nat.le_refl _) _).alloc (by simp) _).alloc (by simp; omega) _⟩
    simp [results, Tryz.results126, go_sem, hu78, z0, z1, z2]
  · have HF := hQ (show xx a b = ⟨0, 0, 0⟩ from if_neg h)
    rw [HF.out]
    have d1 : (a.f0 = b.f0) = False := eq_false h
    have d2 : (a.f0 == b.f0) = false := by simpa using h
    have d3 : (a.f0 != b.f0) = true := by simpa using h
    have d4 : decide (a.f0 = b.f0) = false := dF h
    clear h
    go_enter Tryz.func126, Tryz.ntmps126
    go_wp2
    refine bodyPost_ret (v := .agg #[.int .i64 0, .int .i64 0, .int .i64 0]) ?_ rfl ⟨rfl, (((Below.refl _ _).alloc (Nat.le_refl _) _).alloc (by simp) _).alloc (by simp; omega) _⟩
    simp [results, Tryz.results126, go_sem, hu78, z0, z1, z2]
theorem WV (w : World) (t a b : Int) (hw : wrap64 (a + b) = a + b) : Calls Tryz.prog 96 #[.agg #[.int .i64 t, .int .i64 a, .int .i64 b]] w fun e w' => e = .returned (.agg #[.int .i64 t, .int .i64 a, .int .i64 (a + b)]) ∧ Below w.heap.size w w' := by
  have hu81 := Tryz.underlying81
  have hu78 := Tryz.underlying78
  have B1 := hQ (show Below w.heap.size w ((w.alloc (.cells #[.int .i64 t, .int .i64 a, .int .i64 b] 81)).alloc (.cells #[.int .i64 t, .int .i64 a, .int .i64 (a + b)] 78)) from ((Below.refl _ _).alloc (Nat.le_refl _) _).alloc (by simp) _)
  obtain ⟨x0, x1, x2⟩ := zV (zg (zi w (.cells #[.int .i64 t, .int .i64 a, .int .i64 b] 81 (0, 0))) (.cells #[.int .i64 0, .int .i64 0, .int .i64 0] 78))
  obtain ⟨y0, y1, y2⟩ := zV (vB w (.cells #[.int .i64 t, .int .i64 a, .int .i64 b] 81) (.cells #[.int .i64 t, .int .i64 a, .int .i64 (a + b)] 78 (0, 0)))
  go_enter Tryz.func96, Tryz.ntmps96
  go_wp2
  refine bodyPost_ret (v := .agg #[.int .i64 t, .int .i64 a, .int .i64 (a + b)]) ?_ rfl ⟨rfl, B1.out⟩
  simp [results, Tryz.results96, go_sem, hu78, y0, y1, y2]
theorem XX (w : World) : Calls Tryz.prog 92 #[.int .i64 100] w fun e w' => e = .returned (.agg #[.int .i64 2, .int .i64 100, .int .i64 108]) ∧ Below w.heap.size w w' := by
  have hu78 := Tryz.underlying78
  have B1 := hQ (show Below w.heap.size w (w.alloc (.cells #[.int .i64 2, .int .i64 100, .int .i64 108] 78)) from (Below.refl _ _).alloc (Nat.le_refl _) _)
  obtain ⟨y0, y1, y2⟩ := zV (zi w (.cells #[.int .i64 2, .int .i64 100, .int .i64 108] 78 (0, 0)))
  go_enter Tryz.func92, Tryz.ntmps92
  go_wp2
  refine bodyPost_ret (v := .agg #[.int .i64 2, .int .i64 100, .int .i64 108]) ?_ rfl ⟨rfl, B1.out⟩
  simp [results, Tryz.results92, go_sem, hu78, y0, y1, y2]
theorem jo (w : World) (n a b : Int) (h : a ≤ n ∧ n ≤ b) : Calls Tryz.prog 48 #[.int .i64 n, .int .i64 a, .int .i64 b] w fun e w' => e = .returned (.bool true) ∧ zx w w' := by
  have d1 : decide (n ≥ a) = true := dT h.1
  have d2 : decide (n ≤ b) = true := dT h.2
  clear h
  go_enter Tryz.func48, Tryz.ntmps48
  go_wp2
  exact bodyPost_ret (v := .bool true) (by simp [results, Tryz.results48, go_sem]) rfl ⟨rfl, ⟨0, rfl⟩⟩
end Go.Proofs.YtlalbohhopmpdaaGreat.Top
namespace Go.Proofs.YtlalbohhopmpdaaGreat.Top
open Go.RowKit Go.Proofs.YtlalbohhopmpdaaGreat.PTop Go.YW.PrintWords Go.YW.PrintLast Go.YW.PrintMore Go.Proofs.YtlalbohhopmpdaaGreat.Num
attribute [local go_sem] zm zu
def QI (l : List S78) (s : S78) (j : Int) : Prop := ∀ i : Int, 0 ≤ i → i < j → xx (zK l i) s ≠ s
theorem ne3 {x s : S78} (h : x ≠ s) : (x.f0 = s.f0) = False ∨ ((x.f0 = s.f0) = True ∧ (x.f1 = s.f1) = False) ∨ ((x.f0 = s.f0) = True ∧ (x.f1 = s.f1) = True ∧ (x.f2 = s.f2) = False) := by
  by_cases h0 : x.f0 = s.f0
  · by_cases h1 : x.f1 = s.f1
    · refine .inr (.inr ⟨eq_true h0, eq_true h1, eq_false (fun h2 => h ?_)⟩)
      cases x
      cases s
      simp_all
    · exact .inr (.inl ⟨eq_true h0, eq_false h1⟩)
  · exact .inl (eq_false h0)
theorem ZC (w : World) (A : Option Addr) (c : Nat) (l : List S78) (s : S78) (r : Bool) (hC : Kd.C k78 w A l.length l) (hl : l.length ≤ 1000)
    (hr : if r then ∃ j : Int, 0 ≤ j ∧ j < l.length ∧ xx (zK l j) s = s else QI l s l.length) :
    Calls Tryz.prog 95 #[.slice A l.length c, .agg #[.int .i64 s.f0, .int .i64 s.f1, .int .i64 s.f2]] w fun e w' => e = .returned (.bool r) ∧ Below w.heap.size w w' := by
  have hu78 := Tryz.underlying78
  have hu25 := Tryz.underlying25
  have B0 := hQ (show Below w.heap.size w (w.alloc (.cells #[.int .i64 s.f0, .int .i64 s.f1, .int .i64 s.f2] 78)) from (Below.refl _ _).alloc (Nat.le_refl _) _)
  have S0 := hQ (zi w (.cells #[.int .i64 s.f0, .int .i64 s.f1, .int .i64 s.f2] 78 (0, 0)))
  have HC := hQ hC
  have HL := hQ hl
  have HR := hQ hr
  clear hC hl hr
  go_enter Tryz.func95, Tryz.ntmps95
  go_wp2_with (fail)
  go_loopg [9] l.length (fun g_ v9 wx => ∃ j : Int, 0 ≤ j ∧ (g_ : Int) = l.length - j ∧ v9 = .int .i64 j ∧ zf (QI l s j) ∧ zf (Below w.heap.size w wx) ∧ zf (wx.heap[w.heap.size]? = some (.cells #[.int .i64 s.f0, .int .i64 s.f1, .int .i64 s.f2] 78 (0, 0))))
  case atStart => exact ⟨0, by omega, by omega, rfl, ⟨fun i h0 h1 => by omega⟩, ⟨B0.out⟩, ⟨S0.out⟩⟩
  case round =>
    obtain ⟨j, hj0, hg, rfl, HN, HB, HS⟩ := hrel
    by_cases he : j < (l.length : Int)
    · have hd : decide (j < (l.length : Int)) = true := dT he
      have HE := hQ (show 0 ≤ j ∧ j < (l.length : Int) ∧ (gk : Int) = l.length - j from ⟨hj0, he, hg⟩)
      obtain ⟨ad, e, hx0, hx1, hx2⟩ := Zl (Kd.zz HC.out HB.out) j hj0 he
      cases e
      have p0 : (0 ≤ j) = True := eq_true hj0
      have q0 : (j < (l.length : Int)) = True := eq_true he
      have hw1 : wrap64 (j + 1) = j + 1 := zA (by have := HL.out; omega) (by have := HL.out; omega)
      have hb1 : Below wr.heap.size wr ((wr.alloc (.cells #[.int .i64 (zK l j).f0, .int .i64 (zK l j).f1, .int .i64 (zK l j).f2] 78)).drew) := zk ((Below.refl _ _).alloc (Nat.le_refl _) _)
      have B1 := hQ (ze HB.out HB.out.size hb1)
      have S1 := hQ (zb HS.out hb1)
      have X1 := hQ (zb (zi wr (.cells #[.int .i64 (zK l j).f0, .int .i64 (zK l j).f1, .int .i64 (zK l j).f2] 78 (0, 0))) (zk (Below.refl _ _)))
      clear hb1 hj0 hg he
      go_wp2_with (fail)
      obtain ⟨s0, s1, s2⟩ := zV S1.out
      obtain ⟨x0, x1, x2⟩ := zV X1.out
      by_cases hq : xx (zK l j) s = s
      · have hrt : r = true := by
          cases r with
          | true => rfl
          | false => exact absurd hq ((show QI l s l.length from HR.out) j HE.out.1 HE.out.2.1)
        subst hrt
        have HQ := hQ hq
        clear hq
        go_region_law (first | (go_simp; go_at_call 126; refine (Kr _ (zK l j) s).mono ?_; rintro e w4 ⟨rfl, hb⟩; rw [HQ.out]; have B4 := hQ (ze B1.out B1.out.size hb); have S4 := hQ (zb S1.out hb); clear hb s0 s1 s2 x0 x1 x2; obtain ⟨s0, s1, s2⟩ := zV S4.out))
        all_goals
          go_wp2
          exact bodyPost_ret (v := .bool true) (by simp [results, Tryz.results95, go_sem]) rfl ⟨rfl, B4.out⟩
      · have HQ := hQ hq
        rcases ne3 hq with h0 | ⟨h0, h1⟩ | ⟨h0, h1, h2⟩
        all_goals
          clear hq
          go_region_law (first | (go_simp; go_at_call 126; refine (Kr _ (zK l j) s).mono ?_; rintro e w4 ⟨rfl, hb⟩; have B4 := hQ (ze B1.out B1.out.size hb); have S4 := hQ (zb S1.out hb); clear hb s0 s1 s2 x0 x1 x2; obtain ⟨s0, s1, s2⟩ := zV S4.out))
          all_goals
            go_wp2
            go_roundg (l.length - (j + 1)).toNat
            case measure => have := HE.out; omega
            case rel =>
              have := HE.out
              refine ⟨j + 1, by omega, by omega, by first | rfl | rw [hw1], ⟨fun i h3 h4 => ?_⟩, ⟨B4.out⟩, ⟨S4.out⟩⟩
              by_cases e : i = j
              · rw [e]; exact HQ.out
              · exact HN.out i h3 (by omega)
    · have hd : decide (j < (l.length : Int)) = false := dF he
      have hrf : r = false := by
        cases r with
        | false => rfl
        | true =>
          obtain ⟨i, h0, h1, h2⟩ := (show ∃ j : Int, 0 ≤ j ∧ j < l.length ∧ xx (zK l j) s = s from HR.out)
          exact absurd h2 (HN.out i h0 (by omega))
      subst hrf
      clear he hj0 hg
      go_wp2
      exact bodyPost_ret (v := .bool false) (by simp [results, Tryz.results95, go_sem]) rfl ⟨rfl, HB.out⟩
def qY (x : S78) : Prop := (0 ≤ x.f0 ∧ x.f0 < 4 ∧ 0 ≤ x.f1 ∧ x.f2 ≤ 65536) ∧ ¬ x.f1 < x.f2
instance (x : S78) : Decidable (qY x) := by unfold qY; infer_instance
theorem KY (w : World) (A : Option Addr) (c : Nat) (l : List S78) (s : S78) (hC : Kd.C k78 w A l.length l) (hl : l.length ≤ 1000) (hr : ∀ j : Int, 0 ≤ j → j < l.length → qY (xx (zK l j) s)) :
    Calls Tryz.prog 91 #[.slice A l.length c, .agg #[.int .i64 s.f0, .int .i64 s.f1, .int .i64 s.f2]] w fun e w' => e = .returned (.bool false) ∧ Below w.heap.size w w' := by
  have hu78 := Tryz.underlying78
  have hu25 := Tryz.underlying25
  have B0 := hQ (show Below w.heap.size w (w.alloc (.cells #[.int .i64 s.f0, .int .i64 s.f1, .int .i64 s.f2] 78)) from (Below.refl _ _).alloc (Nat.le_refl _) _)
  have S0 := hQ (zi w (.cells #[.int .i64 s.f0, .int .i64 s.f1, .int .i64 s.f2] 78 (0, 0)))
  have HC := hQ hC
  have HL := hQ hl
  have HR := hQ hr
  clear hC hl hr
  go_enter Tryz.func91, Tryz.ntmps91
  go_wp2_with (fail)
  go_loopg [9] l.length (fun g_ v9 wx => ∃ j : Int, 0 ≤ j ∧ (g_ : Int) = l.length - j ∧ v9 = .int .i64 j ∧ zf (Below w.heap.size w wx) ∧ zf (wx.heap[w.heap.size]? = some (.cells #[.int .i64 s.f0, .int .i64 s.f1, .int .i64 s.f2] 78 (0, 0))))
  case atStart => exact ⟨0, by omega, by omega, rfl, ⟨B0.out⟩, ⟨S0.out⟩⟩
  case round =>
    obtain ⟨j, hj0, hg, rfl, HB, HS⟩ := hrel
    by_cases he : j < (l.length : Int)
    · have hd : decide (j < (l.length : Int)) = true := dT he
      have HE := hQ (show 0 ≤ j ∧ j < (l.length : Int) ∧ (gk : Int) = l.length - j from ⟨hj0, he, hg⟩)
      obtain ⟨ad, e, hx0, hx1, hx2⟩ := Zl (Kd.zz HC.out HB.out) j hj0 he
      cases e
      have p0 : (0 ≤ j) = True := eq_true hj0
      have q0 : (j < (l.length : Int)) = True := eq_true he
      have hw1 : wrap64 (j + 1) = j + 1 := zA (by have := HL.out; omega) (by have := HL.out; omega)
      have hb1 : Below wr.heap.size wr (wr.alloc (.cells #[.int .i64 (zK l j).f0, .int .i64 (zK l j).f1, .int .i64 (zK l j).f2] 78)) := (Below.refl _ _).alloc (Nat.le_refl _) _
      have B1 := hQ (ze HB.out HB.out.size hb1)
      have S1 := hQ (zb HS.out hb1)
      obtain ⟨s0, s1, s2⟩ := zV S1.out
      obtain ⟨x0, x1, x2⟩ := zV (zi wr (.cells #[.int .i64 (zK l j).f0, .int .i64 (zK l j).f1, .int .i64 (zK l j).f2] 78 (0, 0)))
      have HH := hQ (HR.out j hj0 he)
      clear hb1 hj0 hg he
      go_wp2_with (fail)
      refine (Kr _ (zK l j) s).mono ?_
      rintro e w4 ⟨rfl, hb⟩
      have B4 := hQ (ze B1.out B1.out.size hb)
      have S4 := hQ (zb S1.out hb)
      clear hb s0 s1 s2 x0 x1 x2
      go_wp2_with (fail)
      refine (Yr _ (xx (zK l j) s).f0 (xx (zK l j) s).f1 (xx (zK l j) s).f2 false HH.out.1 (dF HH.out.2)).mono ?_
      rintro e w5 ⟨rfl, hb⟩
      have B5 := hQ (ze B4.out B4.out.size hb)
      have S5 := hQ (zb S4.out hb)
      clear hb
      go_wp2
      go_roundg (l.length - (j + 1)).toNat
      case measure => have := HE.out; omega
      case rel => have := HE.out; exact ⟨j + 1, by omega, by omega, by first | rfl | rw [hw1], ⟨B5.out⟩, ⟨S5.out⟩⟩
    · have hd : decide (j < (l.length : Int)) = false := dF he
      clear he hj0 hg
      go_wp2
      exact bodyPost_ret (v := .bool false) (by simp [results, Tryz.results91, go_sem]) rfl ⟨rfl, HB.out⟩
open Go.RowKit Go.Proofs.YtlalbohhopmpdaaGreat.PTop Go.YW.PrintWords Go.YW.PrintLast Go.YW.PrintMore Go.Proofs.YtlalbohhopmpdaaGreat.Num Go.Proofs.YtlalbohhopmpdaaGreat.Tiny
def C3 (a : Addr) (x y z : Value) (w : World) : Prop := w.cell? a = some x ∧ w.cell? ⟨a.block, a.off + 1, none⟩ = some y ∧ w.cell? ⟨a.block, a.off + 2, none⟩ = some z
theorem C3.below {a : Addr} {x y z : Value} {w w1 : World} (h : C3 a x y z w) (hb : Below w.heap.size w w1) : C3 a x y z w1 := ⟨cell_below h.1 hb, cell_below h.2.1 hb, cell_below h.2.2 hb⟩
theorem zby (w : World) (A : Option Addr) (c : Nat) (l : List S78) (hC : Kd.C k78 w A l.length l) (hl : l.length ≤ 1000) (hr : ∀ i : Int, 0 ≤ i → i < l.length → ZQ (zK l i)) (ha : ∀ i : Int, 0 < i → i < l.length → Qv (zK l (i - 1)) (zK l i)) :
    Calls Tryz.prog 90 #[.slice A l.length c] w fun e w' => e = .returned (.bool true) ∧ Below w.heap.size w w' := by
  have hu78 := Tryz.underlying78
  have hu25 := Tryz.underlying25
  have HC := hQ hC
  have HL := hQ hl
  have HR := hQ hr
  have HA := hQ ha
  clear hC hl hr ha
  go_enter Tryz.func90, Tryz.ntmps90
  go_wp2_with (fail)
  go_loopg [7] l.length (fun g_ v7 wx => ∃ j : Int, 0 ≤ j ∧ (g_ : Int) = l.length - j ∧ v7 = .int .i64 j ∧ zf (Below w.heap.size w wx))
  case atStart => exact ⟨0, by omega, by omega, rfl, ⟨Below.refl _ _⟩⟩
  case round =>
    obtain ⟨j, hj0, hg, rfl, HB⟩ := hrel
    by_cases he : j < (l.length : Int)
    · have hd : decide (j < (l.length : Int)) = true := dT he
      have HE := hQ (show 0 ≤ j ∧ j < (l.length : Int) ∧ (gk : Int) = l.length - j from ⟨hj0, he, hg⟩)
      obtain ⟨ad, e, hx0, hx1, hx2⟩ := Zl (Kd.zz HC.out HB.out) j hj0 he
      cases e
      have p0 : (0 ≤ j) = True := eq_true hj0
      have q0 : (j < (l.length : Int)) = True := eq_true he
      have hw : wrap64 (j - 1) = j - 1 := zA (by have := HL.out; omega) (by have := HL.out; omega)
      have hw1 : wrap64 (j + 1) = j + 1 := zA (by have := HL.out; omega) (by have := HL.out; omega)
      have hb1 : Below wr.heap.size wr ((wr.alloc (.cells #[.int .i64 (zK l j).f0, .int .i64 (zK l j).f1, .int .i64 (zK l j).f2] 78)).drew) := zk ((Below.refl _ _).alloc (Nat.le_refl _) _)
      have B1 := hQ (ze HB.out HB.out.size hb1)
      have hx : C3 ⟨wr.heap.size, 0, none⟩ (.int .i64 (zK l j).f0) (.int .i64 (zK l j).f1) (.int .i64 (zK l j).f2) ((wr.alloc (.cells #[.int .i64 (zK l j).f0, .int .i64 (zK l j).f1, .int .i64 (zK l j).f2] 78)).drew) := by
        have h := zb (zi wr (.cells #[.int .i64 (zK l j).f0, .int .i64 (zK l j).f1, .int .i64 (zK l j).f2] 78 (0, 0))) (zk (Below.refl _ _))
        exact ⟨za h 0, za h 1, za h 2⟩
      have X1 := hQ hx
      clear hx hb1
      have R1 := hQ (HR.out j hj0 he)
      by_cases hz : 0 < j
      · have hd2 : decide (j > 0) = true := dT hz
        have A1 := hQ (HA.out j hz he)
        have pz : (1 ≤ j) = True := eq_true (by omega)
        have qz : (j - 1 < (l.length : Int)) = True := eq_true (by omega)
        obtain ⟨ad2, e, hy0, hy1, hy2⟩ := Zl (Kd.zz HC.out HB.out) (j - 1) (by omega) (by omega)
        cases e
        rw [show (j - 1).toNat = j.toNat - 1 by omega] at hy0 hy1 hy2
        have Y1 := hQ (C3.below (show C3 (ad.add ((j.toNat - 1) * 3)) (.int .i64 (zK l (j - 1)).f0) (.int .i64 (zK l (j - 1)).f1) (.int .i64 (zK l (j - 1)).f2) wr from ⟨hy0, hy1, hy2⟩) (zk ((Below.refl wr.heap.size wr).alloc (Nat.le_refl _) (.cells #[.int .i64 (zK l j).f0, .int .i64 (zK l j).f1, .int .i64 (zK l j).f2] 78))))
        clear hy0 hy1 hy2 he hz hj0 hg
        go_wp2_with (fail)
        refine sq_ (ds := []) #[false, false, false, false, false, false, false, false, false, false, false, false, false, false, false, false, false] (fun w' => w'.cell? ⟨wr.heap.size, 0, none⟩ = some (.int .i64 (zK l j).f0) ∧ w'.cell? ⟨wr.heap.size, 1, none⟩ = some (.int .i64 (zK l j).f1) ∧ w'.cell? ⟨wr.heap.size, 2, none⟩ = some (.int .i64 (zK l j).f2) ∧ w'.cell? (ad.add ((j.toNat - 1) * 3)) = some (.int .i64 (zK l (j - 1)).f0) ∧ w'.cell? ⟨(ad.add ((j.toNat - 1) * 3)).block, (ad.add ((j.toNat - 1) * 3)).off + 1, none⟩ = some (.int .i64 (zK l (j - 1)).f1) ∧ w'.cell? ⟨(ad.add ((j.toNat - 1) * 3)).block, (ad.add ((j.toNat - 1) * 3)).off + 2, none⟩ = some (.int .i64 (zK l (j - 1)).f2)) ⟨X1.out.1, X1.out.2.1, X1.out.2.2, Y1.out.1, Y1.out.2.1, Y1.out.2.2⟩ (fun hHeld => ?_)
        refine tq_ 0 (some 12) hHeld ?_
        refine oq_ 1 (some 13) (fun K hK => ?_)
        refine yo Tryz.func113 (by kernel_rfl) rfl #[.agg #[.int .i64 (zK l j).f0, .int .i64 (zK l j).f1, .int .i64 (zK l j).f2]] (by rfl) rfl rfl (by (try simp only [List.map_toArray, List.map_cons, List.map_nil]); first | done | rfl) ?_
        refine (Yr _ (zK l j).f0 (zK l j).f1 (zK l j).f2 true R1.out.1 (dT R1.out.2)).mono ?_
        rintro e w2 ⟨rfl, hd_⟩
        refine ⟨_, rfl, ?_⟩
        have B2 := hQ (ze B1.out B1.out.size hd_)
        have X2 := hQ (C3.below X1.out hd_)
        have Y2 := hQ (C3.below Y1.out hd_)
        clear hd_
        refine hK.out _ _ ⟨X2.out.1, X2.out.2.1, X2.out.2.2, Y2.out.1, Y2.out.2.1, Y2.out.2.2⟩ (fun hHeld => ?_)
        clear hK K
        refine nq_ ?_
        refine pq_ 2 (some 14) ?_
        refine pq_ 3 (some 15) ?_
        refine pq_ 4 (some 16) ?_
        refine pq_ 5 (some 17) ?_
        refine pq_ 6 (some 18) ?_
        refine pq_ 7 (some 19) ?_
        refine pq_ 8 (some 20) ?_
        refine pq_ 9 (some 21) ?_
        refine pq_ 10 (some 22) ?_
        refine tq_ 11 (some 23) hHeld ?_
        refine tq_ 12 (some 24) hHeld ?_
        refine oq_ 13 (some 25) (fun K hK => ?_)
        refine yo Tryz.func125 (by kernel_rfl) rfl #[.agg #[.int .i64 (zK l (j - 1)).f0, .int .i64 (zK l (j - 1)).f1, .int .i64 (zK l (j - 1)).f2], .agg #[.int .i64 (zK l j).f0, .int .i64 (zK l j).f1, .int .i64 (zK l j).f2]] (by rfl) rfl rfl (by (try simp only [List.map_toArray, List.map_cons, List.map_nil]); first | done | rfl) ?_
        refine (zbD _ (zK l (j - 1)).f0 (zK l (j - 1)).f1 (zK l (j - 1)).f2 (zK l j).f0 (zK l j).f1 (zK l j).f2 A1.out).mono ?_
        rintro e w3 ⟨rfl, hd_⟩
        refine ⟨_, rfl, ?_⟩
        have B3 := hQ (ze B2.out B2.out.size hd_)
        have X3 := hQ (C3.below X2.out hd_)
        have Y3 := hQ (C3.below Y2.out hd_)
        clear hd_
        refine hK.out _ _ ⟨X3.out.1, X3.out.2.1, X3.out.2.2, Y3.out.1, Y3.out.2.1, Y3.out.2.2⟩ (fun hHeld => ?_)
        clear hK K
        refine nq_ ?_
        refine pq_ 14 (some 26) ?_
        refine pq_ 15 (some 27) ?_
        refine pq_ 16 (some 28) ?_
        refine xP (by kernel_rfl) ?_
        go_wp2
        go_roundg (l.length - (j + 1)).toNat
        case measure => have := HE.out; omega
        case rel => have := HE.out; exact ⟨j + 1, by omega, by omega, by first | rfl | rw [hw1], ⟨B3.out⟩⟩
      · have hd2 : decide (j > 0) = false := dF hz
        clear he hz hj0 hg
        go_wp2_with (fail)
        refine sq_ (ds := []) #[false, false, false, false, false, false, false, false, false, false, false, false, false, false, false, false, false] (fun w' => w'.cell? ⟨wr.heap.size, 0, none⟩ = some (.int .i64 (zK l j).f0) ∧ w'.cell? ⟨wr.heap.size, 1, none⟩ = some (.int .i64 (zK l j).f1) ∧ w'.cell? ⟨wr.heap.size, 2, none⟩ = some (.int .i64 (zK l j).f2)) ⟨X1.out.1, X1.out.2.1, X1.out.2.2⟩ (fun hHeld => ?_)
        refine tq_ 0 (some 12) hHeld ?_
        refine oq_ 1 (some 13) (fun K hK => ?_)
        refine yo Tryz.func113 (by kernel_rfl) rfl #[.agg #[.int .i64 (zK l j).f0, .int .i64 (zK l j).f1, .int .i64 (zK l j).f2]] (by rfl) rfl rfl (by (try simp only [List.map_toArray, List.map_cons, List.map_nil]); first | done | rfl) ?_
        refine (Yr _ (zK l j).f0 (zK l j).f1 (zK l j).f2 true R1.out.1 (dT R1.out.2)).mono ?_
        rintro e w2 ⟨rfl, hd_⟩
        refine ⟨_, rfl, ?_⟩
        have B2 := hQ (ze B1.out B1.out.size hd_)
        have X2 := hQ (C3.below X1.out hd_)
        clear hd_
        refine hK.out _ _ ⟨X2.out.1, X2.out.2.1, X2.out.2.2⟩ (fun hHeld => ?_)
        clear hK K
        refine nq_ ?_
        refine pq_ 2 (some 14) ?_
        refine pq_ 3 (some 15) ?_
        refine pq_ 4 (some 16) ?_
        refine pq_ 5 (some 17) ?_
        refine pq_ 6 (some 18) ?_
        refine uq_ 7 (some 19) ?_
        refine uq_ 8 (some 20) ?_
        refine uq_ 9 (some 21) ?_
        refine uq_ 10 (some 22) ?_
        refine uq_ 11 (some 23) ?_
        refine uq_ 12 (some 24) ?_
        refine uq_ 13 (some 25) ?_
        refine uq_ 14 (some 26) ?_
        refine pq_ 15 (some 27) ?_
        refine pq_ 16 (some 28) ?_
        refine xP (by kernel_rfl) ?_
        go_wp2
        go_roundg (l.length - (j + 1)).toNat
        case measure => have := HE.out; omega
        case rel => have := HE.out; exact ⟨j + 1, by omega, by omega, by first | rfl | rw [hw1], ⟨B2.out⟩⟩
    · have hd : decide (j < (l.length : Int)) = false := dF he
      clear he hj0 hg
      go_wp2
      exact bodyPost_ret (v := .bool true) (by simp [results, Tryz.results90, go_sem]) rfl ⟨rfl, HB.out⟩
end Go.Proofs.YtlalbohhopmpdaaGreat.Top
