/- Words and walks for TopBlind (made of the session's own texts; each part by itself). -/
import Derived.Deep.DeepCutAuto
import Derived.Deep.DeepMust
import Derived.Deep.RegionLaw
import Derived.Laws.CopyOwn
import Derived.Test.YtlalbohhopmpdaaGreatZTopBlind11
set_option maxRecDepth 100000
set_option maxHeartbeats 8000000
set_option linter.unusedVariables false
set_option linter.unusedSimpArgs false
namespace Go.Proofs.YtlalbohhopmpdaaGreat.Top
open Go.RowKit Go.Proofs.YtlalbohhopmpdaaGreat.PTop Go.YW.PrintWords Go.YW.PrintLast Go.YW.PrintMore Go.Proofs.YtlalbohhopmpdaaGreat.Num
attribute [local go_sem] zk zo
theorem qN {w w1 : World} {g1 g2 t base : Nat} {cs1 cs2 : Array Value} {x1 x2 : Nat × Nat} {α : Type} {d : Kd α} {e : Nat} {v : Value} {xs : List α} (hb : ∀ i, i ≠ g1 → i ≠ g2 → w1.heap[i]? = w.heap[i]?) (h1 : w.heap[g1]? = some (.cells cs1 t x1)) (h2 : w.heap[g2]? = some (.cells cs2 t x2)) (ht : ∀ q, q ∈ e :: d.E → q ≠ t) (hr : Kd.R d e w base (fun _ => True) v xs) : Kd.R d e w1 base (fun _ => True) v xs := by
  refine Kd.yX (Kd.Yl (Kd.xZ hr) (fun k hk => ?_)) (fun _ _ => trivial)
  obtain ⟨_, _, _, q, hq, cells, hc⟩ := hk
  refine hb k (fun e => ?_) (fun e => ?_)
  · subst e
    rw [hc] at h1
    injection h1 with h1
    injection h1 with _ h1
    exact ht q hq h1
  · subst e
    rw [hc] at h2
    injection h2 with h2
    injection h2 with _ h2
    exact ht q hq h2
theorem Jp (w : World) (B : Nat) (v : Value) (x : VS) (h : xK w B v x) (h1 : x.reads.length ≤ 1000) (h2 : x.writes.length ≤ 1000) :
    Calls Tryz.prog 241 #[v] w fun e w' => ∃ v', e = .returned v' ∧ xK w' w.heap.size v' x ∧ Below w.heap.size w w' := by
  obtain ⟨A1, c1, A2, c2, rfl, r1, r2⟩ := h
  have hu162 := Tryz.underlying162
  have C1 := hQ (Kd.zB r1).2
  have C2 := hQ (Kd.zB r2).2
  have H1 := hQ h1
  have H2 := hQ h2
  clear r1 r2 h1 h2
  have hb0 : Below w.heap.size w (((w.alloc (.cells #[.int .u64 x.snap, .slice A1 x.reads.length c1, .slice A2 x.writes.length c2] 162)).alloc (.cells #[.int .u64 0, .slice none 0 0, .slice none 0 0] 162)).drew) := (((Below.refl _ _).alloc (Nat.le_refl _) _).alloc (by simp) _).trans (zl (Below.refl _ _))
  have B0 := hQ hb0
  have X0 := hQ (zb (zg (zi w (.cells #[.int .u64 x.snap, .slice A1 x.reads.length c1, .slice A2 x.writes.length c2] 162 (0, 0))) (.cells #[.int .u64 0, .slice none 0 0, .slice none 0 0] 162 (0, 0))) (zl (Below.refl _ _)))
  have Y0 := hQ (zb (zi (w.alloc (.cells #[.int .u64 x.snap, .slice A1 x.reads.length c1, .slice A2 x.writes.length c2] 162 (0, 0))) (.cells #[.int .u64 0, .slice none 0 0, .slice none 0 0] 162 (0, 0))) (zl (Below.refl _ _)))
  rw [show (w.alloc (.cells #[.int .u64 x.snap, .slice A1 x.reads.length c1, .slice A2 x.writes.length c2] 162 (0, 0))).heap.size = w.heap.size + 1 by simp] at Y0
  clear hb0
  go_enter Tryz.func241, Tryz.ntmps241
  go_wp2_with (fail)
  go_region_law (first | (go_simp; go_at_call 23; refine (Jg A1 c1 x.reads _ (Kd.zx C1.out.2 B0.out) C1.out.1 (by have := H1.out; omega)).mono ?_; rintro e w2 ⟨A3, c3, rfl, hr, hb⟩; have R1 := hQ hr; have B1 := hQ (zf B0.out B0.out.size hb); have X1 := hQ (zb X0.out hb); have Y1 := hQ (zb Y0.out hb); have k0 : w2.cell? ⟨w.heap.size, 0, none⟩ = some (.int .u64 x.snap) := za X1.out 0; have k1 : w2.cell? ⟨w.heap.size, 1, none⟩ = some (.slice A1 x.reads.length c1) := za X1.out 1; have k2 : w2.cell? ⟨w.heap.size, 2, none⟩ = some (.slice A2 x.writes.length c2) := za X1.out 2; have f1 := zh X1.out 1; have f2 := zh X1.out 2; clear hr hb) | (go_simp; go_at_call 251; refine (Jz A2 c2 x.writes _ (Kd.zx C2.out.2 B1.out) C2.out.1 (by have := H2.out; omega)).mono ?_; rintro e w3 ⟨A4, c4, rfl, hr, hb⟩; have R2 := hQ hr; have B2 := hQ (zf B1.out B1.out.size hb); have X2 := hQ (zb X1.out hb); have Y2 := hQ (zb Y1.out hb); have m0 : w3.cell? ⟨w.heap.size, 0, none⟩ = some (.int .u64 x.snap) := za X2.out 0; have m1 : w3.cell? ⟨w.heap.size, 1, none⟩ = some (.slice A1 x.reads.length c1) := za X2.out 1; have m2 : w3.cell? ⟨w.heap.size, 2, none⟩ = some (.slice A2 x.writes.length c2) := za X2.out 2; have g1 := zh X2.out 1; have g2 := zh X2.out 2; have n0 : w3.cell? ⟨w.heap.size + 1, 0, none⟩ = some (.int .u64 0) := za Y2.out 0; have n1 : w3.cell? ⟨w.heap.size + 1, 1, none⟩ = some (.slice none 0 0) := za Y2.out 1; have n2 : w3.cell? ⟨w.heap.size + 1, 2, none⟩ = some (.slice none 0 0) := za Y2.out 2; have z0 := zh Y2.out 0; have z1 := zh Y2.out 1; have z2 := zh Y2.out 2; have R1' := hQ (Kd.zz R1.out hb); clear hr hb))
  all_goals
    go_wp2
    refine bodyPost_ret (v := .agg #[.int .u64 x.snap, .slice A3 x.reads.length c3, .slice A4 x.writes.length c4]) ?_ rfl ?_
    · simp [results, Tryz.results241, go_sem, hu162, n0, n1, n2]
    refine ⟨_, rfl, ⟨A3, c3, A4, c4, rfl, ?_, ?_⟩, ?_⟩
    · refine qN (fun i h1 h2 => ?_) X2.out Y2.out (by decide) (Kd.zU R1'.out B0.out.size)
      rw [Below.heap_setCell _ _ _ i h2, Below.heap_setCell _ _ _ i h2, Below.heap_setCell _ _ _ i h2, Below.heap_setCell _ _ _ i h1, Below.heap_setCell _ _ _ i h1]
    · refine qN (fun i h1 h2 => ?_) X2.out Y2.out (by decide) (Kd.zU R2.out B1.out.size)
      rw [Below.heap_setCell _ _ _ i h2, Below.heap_setCell _ _ _ i h2, Below.heap_setCell _ _ _ i h2, Below.heap_setCell _ _ _ i h1, Below.heap_setCell _ _ _ i h1]
    · exact ((((B2.out.setCell (Nat.le_refl _) _).setCell (Nat.le_refl _) _).setCell (Nat.le_succ _) _).setCell (Nat.le_succ _) _).setCell (Nat.le_succ _) _
def jK (ch : Int × Int → List xU) (t a q : Int) (n : Nat) : List Int := (List.range n).map (fun (i : Nat) => WH (ch (t, a + (i : Int))) q)
theorem Yi (ch : Int × Int → List xU) (t a q : Int) (n : Nat) : (jK ch t a q n).length = n := by simp [jK]
theorem Vn (ch : Int × Int → List xU) (t a q : Int) (n : Nat) : jK ch t a q (n + 1) = jK ch t a q n ++ [WH (ch (t, a + (n : Int))) q] := by
  unfold jK
  rw [List.range_succ, List.map_append]
  rfl
theorem VW (w : World) (B N st mst : Nat) (s : SS) (h : xg w B N st mst s) (hs : kG s.ch) (q : Int) (A1 A2 : Option Addr) (n1 c1 c2 : Nat) (t a b : Int) (ht : 0 ≤ t ∧ t < 4) (ha : 0 ≤ a ∧ a ≤ b ∧ b ≤ 65536) (n : Nat) (hn : (n : Int) = b - a) :
    Calls Tryz.prog 214 #[.pointer (some ⟨st, 0, none⟩), .agg #[.int .u64 q, .slice A1 n1 c1, .slice A2 0 c2], .agg #[.int .i64 t, .int .i64 a, .int .i64 b]] w fun e w' => ∃ A c, e = .returned (.slice A n c) ∧ Kd.R (Kd.int .u16) 33 w' w.heap.size (fun _ => True) (.slice A n c) (jK s.ch t a q n) ∧ Below w.heap.size w w' := by
  have hu162 := Tryz.underlying162
  have hu158 := Tryz.underlying158
  have hu78 := Tryz.underlying78
  have hu35 := Tryz.underlying35
  have hb0 : Below w.heap.size w ((w.alloc (.cells #[.int .u64 q, .slice A1 n1 c1, .slice A2 0 c2] 162)).alloc (.cells #[.int .i64 t, .int .i64 a, .int .i64 b] 78)) := ((Below.refl _ _).alloc (Nat.le_refl _) _).alloc (by simp) _
  have B0 := hQ hb0
  have X0 := hQ (zg (zi w (.cells #[.int .u64 q, .slice A1 n1 c1, .slice A2 0 c2] 162 (0, 0))) (.cells #[.int .i64 t, .int .i64 a, .int .i64 b] 78 (0, 0)))
  have Y0 := hQ (zi (w.alloc (.cells #[.int .u64 q, .slice A1 n1 c1, .slice A2 0 c2] 162 (0, 0))) (.cells #[.int .i64 t, .int .i64 a, .int .i64 b] 78 (0, 0)))
  rw [show (w.alloc (.cells #[.int .u64 q, .slice A1 n1 c1, .slice A2 0 c2] 162 (0, 0))).heap.size = w.heap.size + 1 by simp] at Y0
  have HH := hQ h
  have HS := hQ hs
  have HT := hQ ht
  have HA := hQ ha
  have HN := hQ hn
  clear hb0 h hs ht ha hn
  go_enter Tryz.func214, Tryz.ntmps214
  go_wp2_with (fail)
  go_loopg [7, 8] n (fun g_ v7 v8 wx => ∃ (j : Int) (A : Option Addr) (c : Nat), 0 ≤ j ∧ j + (g_ : Int) = (n : Int) ∧ v8 = .int .i64 (a + j) ∧ v7 = .slice A j.toNat c ∧ ze (Kd.R (Kd.int .u16) 33 wx w.heap.size (fun _ => True) (.slice A j.toNat c) (jK s.ch t a q j.toNat)) ∧ ze (wx.heap[w.heap.size]? = some (.cells #[.int .u64 q, .slice A1 n1 c1, .slice A2 0 c2] 162 (0, 0))) ∧ ze (wx.heap[w.heap.size + 1]? = some (.cells #[.int .i64 t, .int .i64 a, .int .i64 b] 78 (0, 0))) ∧ ze (Below w.heap.size w wx))
  case atStart => exact ⟨0, none, 0, by omega, by omega, by simp, rfl, ⟨by show Kd.R _ _ _ _ _ (.slice none 0 0) []; exact Kd.ql _ _ _ _ _⟩, ⟨X0.out⟩, ⟨Y0.out⟩, ⟨B0.out⟩⟩
  case round =>
    obtain ⟨j, A, c, hj0, hj, rfl, rfl, HR, HX, HY, HB⟩ := hrel
    have y1 : wr.cell? ⟨w.heap.size + 1, 2, none⟩ = some (.int .i64 b) := za HY.out 2
    have y0 : wr.cell? ⟨w.heap.size + 1, 0, none⟩ = some (.int .i64 t) := za HY.out 0
    cases gk with
    | zero =>
      have hd : decide (a + j < b) = false := decide_eq_false (by have := HN.out; omega)
      have hjn : j.toNat = n := by omega
      have HE := HR.out
      rw [hjn] at HE ⊢
      have HF := hQ HE
      clear HE hjn
      go_wp2
      go_ret
      exact ⟨A, c, rfl, HF.out, HB.out⟩
    | succ g1 =>
      have hd : decide (a + j < b) = true := decide_eq_true (by have := HN.out; omega)
      obtain ⟨v, hv⟩ : ∃ v, v = WH (s.ch (t, a + j)) q := ⟨_, rfl⟩
      have HV := hQ hv
      have HJ := hQ (show 0 ≤ j ∧ j + ((g1 + 1 : Nat) : Int) = (n : Int) from ⟨hj0, hj⟩)
      have hb1 : Below wr.heap.size wr (wr.alloc (.cells #[.int .i64 t, .int .i64 (a + j)] 158)) := (Below.refl _ _).alloc (Nat.le_refl _) _
      have B1 := hQ (zf HB.out HB.out.size hb1)
      have X1 := hQ (zb HX.out hb1)
      have Y1 := hQ (zb HY.out hb1)
      have Z1 := hQ (zi wr (.cells #[.int .i64 t, .int .i64 (a + j)] 158 (0, 0)))
      have R1 := hQ (Kd.zz HR.out hb1)
      have x2 : (wr.alloc (.cells #[.int .i64 t, .int .i64 (a + j)] 158)).cell? ⟨w.heap.size, 2, none⟩ = some (.slice A2 0 c2) := za X1.out 2
      clear hb1 hv hj0 hj
      go_wp2_with (fail)
      refine (zbz _ A2 c2 t (a + j)).mono ?_
      rintro e w2 ⟨rfl, hb⟩
      have B2 := hQ (zf B1.out B1.out.size hb)
      have X2 := hQ (zb X1.out hb)
      have Y2 := hQ (zb Y1.out hb)
      have Z2 := hQ (zb Z1.out hb)
      have R2 := hQ (Kd.zz R1.out hb)
      have S2 := hQ (HH.out.below B2.out)
      have x0 : w2.cell? ⟨w.heap.size, 0, none⟩ = some (.int .u64 q) := za X2.out 0
      have z0 : w2.cell? ⟨wr.heap.size, 0, none⟩ = some (.int .i64 t) := za Z2.out 0
      have z1 : w2.cell? ⟨wr.heap.size, 1, none⟩ = some (.int .i64 (a + j)) := za Z2.out 1
      clear hb x2
      go_wp2_with (fail)
      refine (Ko w2 B N st mst s S2.out HS.out t (a + j) q ⟨WalkArith.wf_i64 (by have := HT.out; omega), WalkArith.wf_i64 (by have := HA.out; have := HJ.out; have := HN.out; omega)⟩).mono ?_
      rintro e w3 ⟨rfl, hb⟩
      rw [← HV.out]
      have B3 := hQ (zf B2.out B2.out.size hb)
      have X3 := hQ (zb X2.out hb)
      have Y3 := hQ (zb Y2.out hb)
      have R3 := hQ (Kd.zz R2.out hb)
      clear hb x0 z0 z1
      go_wp2_with (first | ((with_reducible refine yj (b := .append) (xs := #[.tmp 38, .tmp 40]) rfl ?_); at_builtin; go_must (refine Kd.ZJ (Kd.int .u16) (w0 := w) w.heap.size rfl (.tmp 38) (.tmp 40) 35 33 (.int .u16 0) 2 rfl Tryz.underlying35 VN rfl (by decide) (by omega) (.slice A j.toNat c) (jK s.ch t a q j.toNat) v [.int .u16 v] (fun _ => True) (fun _ => False) rfl rfl ?aP (fun _ hk => hk.elim) (fun _ _ => trivial) ?aO ?aB ?aS ?aL ?_; (case aP => rfl); (case aO => exact R3.out); (case aB => exact B3.out); (case aS => exact B3.out.size); (case aL => rw [Yi]; have := HJ.out; have := HN.out; have := HA.out; omega); intro v7 w4 ho hb hg hat; have hlen : (jK s.ch t a q j.toNat ++ [v]).length = (j + 1).toNat := (by rw [List.length_append, Yi]; have := HJ.out; simp; omega); obtain ⟨A4, c4, e4⟩ := Kd.yc ho; rw [hlen] at e4; subst e4; have R4 := hQ ho; have B4 := hQ hb; have X4 := hQ ((hg.block _ (zF X3.out) (Kd.Qz R3.out X3.out (by decide))).trans X3.out); have Y4 := hQ ((hg.block _ (zF Y3.out) (Kd.Qz R3.out Y3.out (by decide))).trans Y3.out); clear ho hb hg hat hlen)))
      go_roundg g1
      case measure => have := HJ.out; omega
      case rel =>
        have hj := HJ.out
        have hn := HN.out
        have ha := HA.out
        have e1 : jK s.ch t a q (j + 1).toNat = jK s.ch t a q j.toNat ++ [v] := by
          rw [show (j + 1).toNat = j.toNat + 1 by omega, Vn, Int.toNat_of_nonneg hj.1, HV.out]
        refine ⟨j + 1, A4, c4, by omega, by omega, ?_, rfl, ⟨by rw [e1]; exact R4.out⟩, ⟨X4.out⟩, ⟨Y4.out⟩, ⟨B4.out⟩⟩
        first | rfl | (rw [show wrap64 (a + j + 1) = a + (j + 1) from by unfold wrap64; omega]) | (congr 1; omega)
end Go.Proofs.YtlalbohhopmpdaaGreat.Top
namespace Go.Proofs.YtlalbohhopmpdaaGreat.PTop
open Go.RowKit Go.YW.PrintWords Go.YW.PrintLast Go.YW.PrintMore
attribute [local go_sem] yN yO xu xw yP yR xm xq zk zo   -- for this text's walks alone
def jR.f (a0_0 : Int) (a0_1 : Int) (a0_2 : Int) : Option (Bool) := if a0_0 ≥ 0 then (if a0_0 < 4 then (if a0_1 ≥ 0 then (if a0_2 ≤ 65536 then (some (decide (a0_1 < a0_2))) else (some false)) else (some false)) else (some false)) else (some false)
theorem jR.calls (a0_0 : Int) (a0_1 : Int) (a0_2 : Int) (r : Bool) (w : World) (h : jR.f a0_0 a0_1 a0_2 = some r) :
  Calls Tryz.prog 113 #[.agg #[.int .i64 a0_0, .int .i64 a0_1, .int .i64 a0_2]] w fun e w' => e = .returned (.bool r) ∧ Below w.heap.size w w' := by
 have hu78 := Tryz.underlying78
 have HB := ze.mk (Below.refl w.heap.size w)
 have H : (if a0_0 ≥ 0 then (if a0_0 < 4 then (if a0_1 ≥ 0 then (if a0_2 ≤ 65536 then (some (decide (a0_1 < a0_2))) else (some false)) else (some false)) else (some false)) else (some false)) = some r := h
 clear h
 by_cases c2 : a0_0 ≥ 0
 ·
  rw [if_pos c2] at H
  have c2b0 : decide (0 ≤ a0_0) = true := dT c2
  clear c2
  by_cases c3 : a0_0 < 4
  ·
   rw [if_pos c3] at H
   have c3b0 : decide (a0_0 < 4) = true := dT c3
   clear c3
   by_cases c4 : a0_1 ≥ 0
   ·
    rw [if_pos c4] at H
    have c4b0 : decide (0 ≤ a0_1) = true := dT c4
    clear c4
    by_cases c5 : a0_2 ≤ 65536
    ·
     rw [if_pos c5] at H
     have c5b0 : decide (a0_2 ≤ 65536) = true := dT c5
     clear c5
     obtain rfl := Option.some.inj H
     go_enter Tryz.func113, Tryz.ntmps113
     go_wp2_with (first | ((with_reducible refine zN (N := 1) rfl ?_); refine yf ?hg (N := 1) ?hd (cs := #[.int .i64 a0_0, .int .i64 a0_1, .int .i64 a0_2]) (t := 78) ?hr ?_; (case hd => rfl); (case hg => rfl); (case hr => first | (go_simp; done) | (go_simp; rfl)); intro gb101 hg w6 hbox hb; have BK101 := ze.mk (hbox); have GW101 := ze.mk ((by rw [hg]; exact (zt (HB.out)) : w.heap.size ≤ gb101)); have GE101 := ze.mk ((by rw [hg]; exact (zt (HB.out)) : w.heap.size ≤ gb101)); replace HB := ze.mk (zG (HB.out) hb); clear hb hbox hg; obtain ⟨hcz7_0, hcz7_1, hcz7_2⟩ := zS BK101.out; obtain ⟨hfz7_0, hfz7_1, hfz7_2⟩ := xD BK101.out))
     go_ret
     exact ⟨by first | rfl | (simp [zC, zD] <;> rfl) | (simp [*, zC, zD] <;> rfl), HB.out⟩
    ·
     rw [if_neg c5] at H
     have c5b0 : decide (a0_2 ≤ 65536) = false := dF c5
     clear c5
     obtain rfl := Option.some.inj H
     go_enter Tryz.func113, Tryz.ntmps113
     go_wp2_with (first | ((with_reducible refine zN (N := 1) rfl ?_); refine yf ?hg (N := 1) ?hd (cs := #[.int .i64 a0_0, .int .i64 a0_1, .int .i64 a0_2]) (t := 78) ?hr ?_; (case hd => rfl); (case hg => rfl); (case hr => first | (go_simp; done) | (go_simp; rfl)); intro gb101 hg w8 hbox hb; have BK101 := ze.mk (hbox); have GW101 := ze.mk ((by rw [hg]; exact (zt (HB.out)) : w.heap.size ≤ gb101)); have GE101 := ze.mk ((by rw [hg]; exact (zt (HB.out)) : w.heap.size ≤ gb101)); replace HB := ze.mk (zG (HB.out) hb); clear hb hbox hg; obtain ⟨hcz9_0, hcz9_1, hcz9_2⟩ := zS BK101.out; obtain ⟨hfz9_0, hfz9_1, hfz9_2⟩ := xD BK101.out))
     go_ret
     exact ⟨by first | rfl | (simp [zC, zD] <;> rfl) | (simp [*, zC, zD] <;> rfl), HB.out⟩
   ·
    rw [if_neg c4] at H
    have c4b0 : decide (0 ≤ a0_1) = false := dF c4
    clear c4
    obtain rfl := Option.some.inj H
    go_enter Tryz.func113, Tryz.ntmps113
    go_wp2_with (first | ((with_reducible refine zN (N := 1) rfl ?_); refine yf ?hg (N := 1) ?hd (cs := #[.int .i64 a0_0, .int .i64 a0_1, .int .i64 a0_2]) (t := 78) ?hr ?_; (case hd => rfl); (case hg => rfl); (case hr => first | (go_simp; done) | (go_simp; rfl)); intro gb101 hg w10 hbox hb; have BK101 := ze.mk (hbox); have GW101 := ze.mk ((by rw [hg]; exact (zt (HB.out)) : w.heap.size ≤ gb101)); have GE101 := ze.mk ((by rw [hg]; exact (zt (HB.out)) : w.heap.size ≤ gb101)); replace HB := ze.mk (zG (HB.out) hb); clear hb hbox hg; obtain ⟨hcz11_0, hcz11_1, hcz11_2⟩ := zS BK101.out; obtain ⟨hfz11_0, hfz11_1, hfz11_2⟩ := xD BK101.out))
    go_ret
    exact ⟨by first | rfl | (simp [zC, zD] <;> rfl) | (simp [*, zC, zD] <;> rfl), HB.out⟩
  ·
   rw [if_neg c3] at H
   have c3b0 : decide (a0_0 < 4) = false := dF c3
   clear c3
   obtain rfl := Option.some.inj H
   go_enter Tryz.func113, Tryz.ntmps113
   go_wp2_with (first | ((with_reducible refine zN (N := 1) rfl ?_); refine yf ?hg (N := 1) ?hd (cs := #[.int .i64 a0_0, .int .i64 a0_1, .int .i64 a0_2]) (t := 78) ?hr ?_; (case hd => rfl); (case hg => rfl); (case hr => first | (go_simp; done) | (go_simp; rfl)); intro gb101 hg w12 hbox hb; have BK101 := ze.mk (hbox); have GW101 := ze.mk ((by rw [hg]; exact (zt (HB.out)) : w.heap.size ≤ gb101)); have GE101 := ze.mk ((by rw [hg]; exact (zt (HB.out)) : w.heap.size ≤ gb101)); replace HB := ze.mk (zG (HB.out) hb); clear hb hbox hg; obtain ⟨hcz13_0, hcz13_1, hcz13_2⟩ := zS BK101.out; obtain ⟨hfz13_0, hfz13_1, hfz13_2⟩ := xD BK101.out))
   go_ret
   exact ⟨by first | rfl | (simp [zC, zD] <;> rfl) | (simp [*, zC, zD] <;> rfl), HB.out⟩
 ·
  rw [if_neg c2] at H
  have c2b0 : decide (0 ≤ a0_0) = false := dF c2
  clear c2
  obtain rfl := Option.some.inj H
  go_enter Tryz.func113, Tryz.ntmps113
  go_wp2_with (first | ((with_reducible refine zN (N := 1) rfl ?_); refine yf ?hg (N := 1) ?hd (cs := #[.int .i64 a0_0, .int .i64 a0_1, .int .i64 a0_2]) (t := 78) ?hr ?_; (case hd => rfl); (case hg => rfl); (case hr => first | (go_simp; done) | (go_simp; rfl)); intro gb101 hg w14 hbox hb; have BK101 := ze.mk (hbox); have GW101 := ze.mk ((by rw [hg]; exact (zt (HB.out)) : w.heap.size ≤ gb101)); have GE101 := ze.mk ((by rw [hg]; exact (zt (HB.out)) : w.heap.size ≤ gb101)); replace HB := ze.mk (zG (HB.out) hb); clear hb hbox hg; obtain ⟨hcz15_0, hcz15_1, hcz15_2⟩ := zS BK101.out; obtain ⟨hfz15_0, hfz15_1, hfz15_2⟩ := xD BK101.out))
  go_ret
  exact ⟨by first | rfl | (simp [zC, zD] <;> rfl) | (simp [*, zC, zD] <;> rfl), HB.out⟩
end Go.Proofs.YtlalbohhopmpdaaGreat.PTop
namespace Go.Proofs.YtlalbohhopmpdaaGreat.Top
open Go.RowKit Go.Proofs.YtlalbohhopmpdaaGreat.PTop Go.YW.PrintWords Go.YW.PrintLast Go.YW.PrintMore Go.Proofs.YtlalbohhopmpdaaGreat.Num
attribute [local go_sem] zk zo
theorem Yx (A : Option Addr) (f n c : Nat) (h : f ≤ c) (W : World) : (Instr.sliceAt 155 (.slice A n c) none (some (.int .i64 f)) none).run Tryz.prog W = .ok (.slice A f c) W := by
  have h1 : ¬ ((f : Int) < 0) := by omega
  cases A <;> simp [Instr.sliceAt, Instr.sliceBounds, go_sem, Tryz.underlying155, h]
theorem Wp (ty : TypeId) (A1 A : Option Addr) (m1 c1 c : Nat) (W : World) : (Builtin.copy_ #[155, 155] ty #[.slice A1 m1 c1, .slice A 0 c]).run Tryz.prog W = .ok (.int .i64 0) W := by
  obtain ⟨i, hi, _⟩ := Option.map_eq_some_iff.1 vX
  cases A1 <;> cases A <;> simp [Builtin.copy_, run_underlying Tryz.underlying155, Builtin.lenOf, Builtin.firstCells, sizeOf, typeInfo, storeCells, goInt, hi, loadCells, loadCellsFrom]
theorem Xt (A : Option Addr) (f n c : Nat) (h : f ≤ n) (hc : n ≤ c) : ∃ A1 : Option Addr, ∀ (W : World), (Instr.sliceAt 155 (.slice A n c) (some (.int .i64 f)) none none).run Tryz.prog W = .ok (.slice A1 (n - f) (c - f)) W := by
  obtain ⟨i, hi, hz⟩ := Option.map_eq_some_iff.1 vX
  refine ⟨if c = f then A else A.map (·.add (f * i.size)), fun W => ?_⟩
  have hu := Tryz.underlying155
  by_cases e : c = f
  · cases A <;> simp [Instr.sliceAt, Instr.slice, Instr.sliceBounds, Instr.sliceBound, go_sem, h, e, hi, sizeOf, typeInfo]
  · cases A <;> simp [Instr.sliceAt, Instr.slice, Instr.sliceBounds, Instr.sliceBound, go_sem, h, e, hi, sizeOf, typeInfo]
theorem Ql {W : World} {b g n cap : Nat} {l : List yg} (h : Kd.R xL 208 W b (fun _ => True) (.slice (some ⟨g, 0, none⟩) n cap) l) (i : Int) (h0 : 0 ≤ i) (h1 : i < n) (x : yg) :
    (∃ o0 o1 o2, W.cell? ⟨g, i.toNat * 3, none⟩ = some o0 ∧ W.cell? ⟨g, i.toNat * 3 + 1, none⟩ = some o1 ∧ W.cell? ⟨g, i.toNat * 3 + 2, none⟩ = some o2) ∧ (∀ j, W.frozen? ⟨g, i.toNat * 3 + j, none⟩ = false) ∧
    Kd.R xL 208 (((W.setCell ⟨g, i.toNat * 3, none⟩ (.int .i64 x.f0.f0)).setCell ⟨g, i.toNat * 3 + 1, none⟩ (.int .i64 x.f0.f1)).setCell ⟨g, i.toNat * 3 + 2, none⟩ (.int .u16 x.f1)) b (fun _ => True) (.slice (some ⟨g, 0, none⟩) n cap) (l.set i.toNat x) := by
  obtain ⟨c, hcl, hM, hcc, hz⟩ := Kd.Vg h z208 i h0 h1
  have hc := Zm hM
  subst hc
  obtain ⟨h2, _⟩ := Kd.zcA (okp := fun _ => False) h i h0 h1 (c := [.int .i64 (l.getD i.toNat z208).f0.f0, .int .i64 (l.getD i.toNat z208).f0.f1, .int .u16 (l.getD i.toNat z208).f1]) (seg := [.int .i64 x.f0.f0, .int .i64 x.f0.f1, .int .u16 x.f1]) (j := 0) hcl hcc (show 0 + 3 ≤ 3 by omega) (x' := x) (jW _ _ _ _) (fun _ h => h.elim)
  exact ⟨⟨_, _, _, hcc 0 _ rfl, hcc 1 _ rfl, hcc 2 _ rfl⟩, hz, h2⟩
/-- A cell is put into no cells. -/
theorem zcc (w : World) (A : Option Addr) (c : Nat) (x : yg) :
    Calls Tryz.prog 249 #[.slice A 0 c, .agg #[.int .i64 x.f0.f0, .int .i64 x.f0.f1, .int .u16 x.f1]] w fun e w' => ∃ A' c', e = .returned (.slice A' 1 c') ∧ Kd.R xL 208 w' w.heap.size (fun _ => True) (.slice A' 1 c') [x] ∧ Below w.heap.size w w' := by
  have hu155 := Tryz.underlying155
  have hu158 := Tryz.underlying158
  have hu208 := Tryz.underlying208
  have hb0 : Below w.heap.size w (w.alloc (.cells #[.int .i64 x.f0.f0, .int .i64 x.f0.f1, .int .u16 x.f1] 208)) := (Below.refl _ _).alloc (Nat.le_refl _) _
  have B0 := hQ hb0
  have X0 := hQ (zi w (.cells #[.int .i64 x.f0.f0, .int .i64 x.f0.f1, .int .u16 x.f1] 208 (0, 0)))
  clear hb0
  go_enter Tryz.func249, Tryz.ntmps249
  go_wp2_with (fail)
  refine (Jd _ A c x.f0.f0 x.f0.f1).mono ?_
  rintro e w1 ⟨rfl, hb⟩
  have B1 := hQ (zf B0.out B0.out.size hb)
  have X1 := hQ (zb X0.out hb)
  have x0 : w1.cell? ⟨w.heap.size, 0, none⟩ = some (.int .i64 x.f0.f0) := za X1.out 0
  have x1 : w1.cell? ⟨w.heap.size, 1, none⟩ = some (.int .i64 x.f0.f1) := za X1.out 1
  have x2 : w1.cell? ⟨w.heap.size, 2, none⟩ = some (.int .u16 x.f1) := za X1.out 2
  clear hb
  go_wp2_with (first | ((with_reducible refine zN (N := 27) rfl ?_); go_must (refine Kd.Qr xL (w0 := w) w.heap.size 208 rfl (N := 27) rfl 155 (.tmp 26) (.tmp 26) rfl 1 rfl rfl Tryz.underlying155 (.agg #[(.int .i64 0), (.int .i64 0), (.int .u16 0)]) 24 vX rfl (by decide) (by omega) z208 (ok := fun _ => True) (okp := fun _ => False) (jW _ _ _ z208) (fun _ h => trivial) trivial (by decide) (by decide) B1.out B1.out.size ?_; intro v8 w5 ho hb hg hat; obtain ⟨g, cap, e8, hgb, hgl, _⟩ := Kd.qm ho (by decide); subst e8; have R5 := hQ ho; have B5 := hQ hb; have X5 := hQ ((hg.block _ (zF X1.out) (by simp)).trans X1.out); have HGB := hQ hgb; have v0 : w5.cell? ⟨w.heap.size, 0, none⟩ = some (.int .i64 x.f0.f0) := za X5.out 0; have v1 : w5.cell? ⟨w.heap.size, 1, none⟩ = some (.int .i64 x.f0.f1) := za X5.out 1; have v2 : w5.cell? ⟨w.heap.size, 2, none⟩ = some (.int .u16 x.f1) := za X5.out 2; obtain ⟨⟨o0, o1, o2, ho0, ho1, ho2⟩, hfz, hR6⟩ := Ql R5.out 0 (by decide) (by simp) x; have p0 : w5.cell? ⟨g, 0, none⟩ = some o0 := ho0; have p1 : w5.cell? ⟨g, 1, none⟩ = some o1 := ho1; have p2 : w5.cell? ⟨g, 2, none⟩ = some o2 := ho2; have z0 : w5.frozen? ⟨g, 0, none⟩ = false := hfz 0; have z1 : w5.frozen? ⟨g, 1, none⟩ = false := hfz 1; have z2 : w5.frozen? ⟨g, 2, none⟩ = false := hfz 2; have R6 := hQ (show Kd.R xL 208 (((w5.setCell ⟨g, 0, none⟩ (.int .i64 x.f0.f0)).setCell ⟨g, 1, none⟩ (.int .i64 x.f0.f1)).setCell ⟨g, 2, none⟩ (.int .u16 x.f1)) w.heap.size (fun _ => True) (.slice (some ⟨g, 0, none⟩) 1 cap) [x] from hR6); have hcz := fun ty A1 m1 c1 A c W => Wp ty A1 A m1 c1 c W; have hch := Yx A 0 0 c (Nat.zero_le _); obtain ⟨A3, hcl⟩ := Xt (some ⟨g, 0, none⟩) 1 1 cap (Nat.le_refl _) (by have := (Kd.zB R5.out).2.1; simpa using this); obtain ⟨A4, hcl2⟩ := Xt A 0 0 c (Nat.le_refl _) (Nat.zero_le _); have hq : (Lit.int .i64 1).wf = true := rfl; clear ho hb hg hat ho0 ho1 ho2 hfz hR6 hgb hgl x0 x1 x2)))
  go_region
  go_wp2
  all_goals
    go_ret
    have h6 := R6.out
    first
      | exact ⟨_, _, rfl, Kd.zz h6 (zl (Below.refl _ _)), (((B5.out.setCell HGB.out _).setCell HGB.out _).setCell HGB.out _).trans (zl (Below.refl _ _))⟩
      | (have hcap : cap = 1 := (by first | assumption | (symm; assumption) | omega); rw [hcap] at h6; exact ⟨_, _, rfl, Kd.zz h6 (zl (Below.refl _ _)), (((B5.out.setCell HGB.out _).setCell HGB.out _).setCell HGB.out _).trans (zl (Below.refl _ _))⟩)
end Go.Proofs.YtlalbohhopmpdaaGreat.Top
namespace Go.Proofs.YtlalbohhopmpdaaGreat.Top
open Go.RowKit Go.Proofs.YtlalbohhopmpdaaGreat.PTop Go.YW.PrintWords Go.YW.PrintLast Go.YW.PrintMore Go.Proofs.YtlalbohhopmpdaaGreat.Num
def qB : List S84 := [⟨0, ⟨#[98, 117, 115, 98, 97, 114]⟩⟩, ⟨1, ⟨#[98, 49]⟩⟩, ⟨2, ⟨#[49, 46, 48]⟩⟩]
end Go.Proofs.YtlalbohhopmpdaaGreat.Top
namespace Go.Proofs.YtlalbohhopmpdaaGreat.Top
open Go.RowKit Go.Proofs.YtlalbohhopmpdaaGreat.PTop Go.YW.PrintWords Go.YW.PrintLast Go.YW.PrintMore Go.Proofs.YtlalbohhopmpdaaGreat.Num
attribute [local go_sem] zk zo
theorem Vh {α : Type} (d : Kd α) {W : World} (base e : Nat) {xs : List α} {inner : List Value} (hrep : yJ (d.M W base (fun _ => False)) d.sz xs inner) (hbase : base ≤ W.heap.size) (hm : xs.length ≤ 1000) :
    d.R e (W.alloc (.cells inner.toArray e)) base (fun _ => True) (.slice (some ⟨W.heap.size, 0, none⟩) xs.length xs.length) xs := by
  refine ⟨fun k hk => trivial, inner, ?_, ?_⟩
  · have h2 := World.ownsRow_lit (base := base) (e := e) (size := d.sz) W inner.toArray xs.length hbase (by unfold maxLen; omega) (by simpa using hrep.1)
    simpa using h2
  · exact hrep.imp_ (fun p c hp => d.M_mono (fun k hk => hk.1.elim) (Kd.QR (d.M_bound hp) (zy (Below.refl _ _) _)))
structure CfS (w0 : World) (g : Nat) (cs : Array Value) (w : World) : Prop where
  X : w.heap[g]? = some (.cells cs 30 (0, 0))
  B : Below w0.heap.size w0 w
  ge : w0.heap.size ≤ g
theorem CfS.below {w0 w w1 : World} {g : Nat} {cs : Array Value} (h : CfS w0 g cs w) (hb : Below w.heap.size w w1) : CfS w0 g cs w1 := ⟨zb h.X hb, zf h.B h.B.size hb, h.ge⟩
theorem CfS.set {w0 w : World} {g : Nat} {cs : Array Value} (h : CfS w0 g cs w) (i : Nat) (v : Value) : CfS w0 g (cs.setIfInBounds i v) (w.setCell ⟨g, i, none⟩ v) := ⟨blk_set h.X i v, h.B.setCell h.ge v, h.ge⟩
theorem CfS.c {w0 w : World} {g : Nat} {v0 v1 v2 v3 v4 v5 v6 v7 v8 v9 v10 v11 v12 : Value} (h : CfS w0 g #[v0, v1, v2, v3, v4, v5, v6, v7, v8, v9, v10, v11, v12] w) : w.cell? ⟨g, 0, none⟩ = some v0 ∧ w.cell? ⟨g, 1, none⟩ = some v1 ∧ w.cell? ⟨g, 2, none⟩ = some v2 ∧ w.cell? ⟨g, 3, none⟩ = some v3 ∧ w.cell? ⟨g, 4, none⟩ = some v4 ∧ w.cell? ⟨g, 5, none⟩ = some v5 ∧ w.cell? ⟨g, 6, none⟩ = some v6 ∧ w.cell? ⟨g, 7, none⟩ = some v7 ∧ w.cell? ⟨g, 8, none⟩ = some v8 ∧ w.cell? ⟨g, 9, none⟩ = some v9 ∧ w.cell? ⟨g, 10, none⟩ = some v10 ∧ w.cell? ⟨g, 11, none⟩ = some v11 ∧ w.cell? ⟨g, 12, none⟩ = some v12 := ⟨za h.X 0, za h.X 1, za h.X 2, za h.X 3, za h.X 4, za h.X 5, za h.X 6, za h.X 7, za h.X 8, za h.X 9, za h.X 10, za h.X 11, za h.X 12⟩
theorem Qz {α : Type} {d : Kd α} {e : Nat} {w : World} {B : Nat} {ok : Nat → Prop} {v : Value} {xs : List α} {g t : Nat} {cs : Array Value} (h : Kd.R d e w B ok v xs) (hg : w.heap[g]? = some (.cells cs t (0, 0))) (ht : t ≠ e) : some g ≠ v.ownBlock := fun he => by
  obtain ⟨_, cs', e2⟩ := ZW h g he.symm
  rw [hg] at e2
  injection e2 with e2
  injection e2 with _ e2
  exact ht e2
theorem zbM (w : World) : Calls Tryz.prog 40 #[] w fun e w' => ∃ A n c G, e = .returned (.agg #[.slice A n c, .slice none 0 0, .int .i64 60000, .int .i64 100, .int .i64 32, .int .i64 8, .int .i64 10000, .int .i64 100, .int .i64 500, .int .i64 1024, .int .i64 1024, .int .u64 0, .slice (some ⟨G, 0, none⟩) 3 3]) ∧ Kd.R k84 84 w' w.heap.size (fun _ => True) (.slice (some ⟨G, 0, none⟩) 3 3) qB ∧ Below w.heap.size w w' := by
  have hu30 := Tryz.underlying30
  have hu78 := Tryz.underlying78
  have hu84 := Tryz.underlying84
  have hb1 : Below w.heap.size w ((w.alloc (.cells #[.slice none 0 0, .slice none 0 0, .int .i64 0, .int .i64 0, .int .i64 0, .int .i64 0, .int .i64 0, .int .i64 0, .int .i64 0, .int .i64 0, .int .i64 0, .int .u64 0, .slice none 0 0] 30)).alloc (.cells #[.slice none 0 0, .slice none 0 0, .int .i64 60000, .int .i64 100, .int .i64 32, .int .i64 8, .int .i64 10000, .int .i64 100, .int .i64 500, .int .i64 1024, .int .i64 1024, .int .u64 0, .slice none 0 0] 30)) := ((Below.refl _ _).alloc (Nat.le_refl _) _).alloc (by simp) _
  have S0 := hQ (show CfS w (w.heap.size + 1) #[.slice none 0 0, .slice none 0 0, .int .i64 60000, .int .i64 100, .int .i64 32, .int .i64 8, .int .i64 10000, .int .i64 100, .int .i64 500, .int .i64 1024, .int .i64 1024, .int .u64 0, .slice none 0 0] ((w.alloc (.cells #[.slice none 0 0, .slice none 0 0, .int .i64 0, .int .i64 0, .int .i64 0, .int .i64 0, .int .i64 0, .int .i64 0, .int .i64 0, .int .i64 0, .int .i64 0, .int .u64 0, .slice none 0 0] 30)).alloc (.cells #[.slice none 0 0, .slice none 0 0, .int .i64 60000, .int .i64 100, .int .i64 32, .int .i64 8, .int .i64 10000, .int .i64 100, .int .i64 500, .int .i64 1024, .int .i64 1024, .int .u64 0, .slice none 0 0] 30)) from ⟨vJ w _ _, hb1, Nat.le_succ _⟩)
  have T0 := hQ (show CfS w w.heap.size #[.slice none 0 0, .slice none 0 0, .int .i64 0, .int .i64 0, .int .i64 0, .int .i64 0, .int .i64 0, .int .i64 0, .int .i64 0, .int .i64 0, .int .i64 0, .int .u64 0, .slice none 0 0] ((w.alloc (.cells #[.slice none 0 0, .slice none 0 0, .int .i64 0, .int .i64 0, .int .i64 0, .int .i64 0, .int .i64 0, .int .i64 0, .int .i64 0, .int .i64 0, .int .i64 0, .int .u64 0, .slice none 0 0] 30)).alloc (.cells #[.slice none 0 0, .slice none 0 0, .int .i64 60000, .int .i64 100, .int .i64 32, .int .i64 8, .int .i64 10000, .int .i64 100, .int .i64 500, .int .i64 1024, .int .i64 1024, .int .u64 0, .slice none 0 0] 30)) from ⟨zg (zi w _) _, hb1, Nat.le_refl _⟩)
  clear hb1
  go_enter Tryz.func40, Tryz.ntmps40
  go_wp2_with (fail)
  go_loopg [2] 4 (fun g_ v2 wx => ∃ (j : Int) (A : Option Addr) (n c : Nat) (l : List S78), 0 ≤ j ∧ (g_ : Int) = 4 - j ∧ v2 = .int .i64 j ∧ (n : Int) = j ∧ ze (l.length = n) ∧ ze (CfS w (w.heap.size + 1) #[.slice A n c, .slice none 0 0, .int .i64 60000, .int .i64 100, .int .i64 32, .int .i64 8, .int .i64 10000, .int .i64 100, .int .i64 500, .int .i64 1024, .int .i64 1024, .int .u64 0, .slice none 0 0] wx) ∧ ze (CfS w w.heap.size #[.slice none 0 0, .slice none 0 0, .int .i64 0, .int .i64 0, .int .i64 0, .int .i64 0, .int .i64 0, .int .i64 0, .int .i64 0, .int .i64 0, .int .i64 0, .int .u64 0, .slice none 0 0] wx) ∧ ze (Kd.R k78 78 wx w.heap.size (fun _ => True) (.slice A n c) l))
  case atStart => exact ⟨0, none, 0, 0, [], by omega, by omega, rfl, rfl, ⟨rfl⟩, ⟨S0.out⟩, ⟨T0.out⟩, ⟨Kd.ql _ _ _ _ _⟩⟩
  case round =>
    obtain ⟨j, A, n, c, l, hj0, hg, rfl, hl, HL, HS, HT, HR⟩ := hrel
    obtain ⟨x0, x1, x2, x3, x4, x5, x6, x7, x8, x9, x10, x11, x12⟩ := HS.out.c
    have f0 := zh HS.out.X 0
    by_cases he : j < 4
    · have hd : decide (j < 4) = true := dT he
      have HE := hQ (show 0 ≤ j ∧ j < 4 ∧ (gk : Int) = 4 - j ∧ (n : Int) = j from ⟨hj0, he, hg, hl⟩)
      clear hj0 he hg hl
      have y0 : (wr.alloc (.cells #[.int .i64 j, .int .i64 0, .int .i64 1000] 78)).cell? ⟨w.heap.size + 1, 0, none⟩ = some (.slice A n c) := za (zg HS.out.X _) 0
      go_wp2_with (first | ((with_reducible refine yj (b := .append) (xs := #[.tmp 9, .tmp 12]) (ts := #[25, 25]) rfl ?_); go_must (refine Kd.ZJ k78 (w0 := w) w.heap.size rfl (.tmp 9) (.tmp 12) 25 78 (.agg #[(.int .i64 0), (.int .i64 0), (.int .i64 0)]) 24 rfl Tryz.underlying25 ve rfl (by decide) (by omega) (.slice A n c) l (⟨j, 0, 1000⟩ : S78) [.int .i64 j, .int .i64 0, .int .i64 1000] (fun _ => True) (fun _ => False) rfl rfl (jm _ _ _ _) (fun _ hk => hk.elim) (fun _ _ => trivial) HR.out HS.out.B HS.out.B.size (by have := HE.out; have := HL.out; omega) ?_; intro v3 w3 ho hb hg hat; have hne1 := Qz HR.out HS.out.X (by decide); have hne2 := Qz HR.out HT.out.X (by decide); have S3 := hQ (show CfS w (w.heap.size + 1) #[.slice A n c, .slice none 0 0, .int .i64 60000, .int .i64 100, .int .i64 32, .int .i64 8, .int .i64 10000, .int .i64 100, .int .i64 500, .int .i64 1024, .int .i64 1024, .int .u64 0, .slice none 0 0] w3 from ⟨(hg.block _ (zF HS.out.X) hne1).trans HS.out.X, hb, Nat.le_succ _⟩); have T3 := hQ (show CfS w w.heap.size #[.slice none 0 0, .slice none 0 0, .int .i64 0, .int .i64 0, .int .i64 0, .int .i64 0, .int .i64 0, .int .i64 0, .int .i64 0, .int .i64 0, .int .i64 0, .int .u64 0, .slice none 0 0] w3 from ⟨(hg.block _ (zF HT.out.X) hne2).trans HT.out.X, hb, Nat.le_refl _⟩); have R3 := hQ ho; have HL3 := ze.mk (show (l ++ [(⟨j, 0, 1000⟩ : S78)]).length = n + 1 by rw [List.length_append, HL.out]; rfl); obtain ⟨A3, c3, e3⟩ := Kd.yc ho; rw [HL3.out] at e3; subst e3; clear ho hb hg hat hne1 hne2 x0 x1 x2 x3 x4 x5 x6 x7 x8 x9 x10 x11 x12 f0 y0; obtain ⟨x0, x1, x2, x3, x4, x5, x6, x7, x8, x9, x10, x11, x12⟩ := S3.out.c; have f0 := zh S3.out.X 0)))
      have hwj : wrap64 (j + 1) = j + 1 := zu (by have := HE.out; omega) (by have := HE.out; omega)
      go_roundg (3 - j).toNat
      case measure => have := HE.out; omega
      case rel =>
        have he := HE.out
        refine ⟨j + 1, A3, n + 1, c3, l ++ [⟨j, 0, 1000⟩], by omega, by omega, by rw [hwj], by omega, HL3, ⟨S3.out.set 0 _⟩, ⟨(Below.heap_setCell w3 ⟨w.heap.size + 1, 0, none⟩ _ _ (show w.heap.size ≠ w.heap.size + 1 by omega)).trans T3.out.X, T3.out.B.setCell (show w.heap.size ≤ w.heap.size + 1 by omega) _, T3.out.ge⟩, ⟨Kd.Zh R3.out S3.out.X (by decide) 0 _⟩⟩
    · have hd : decide (j < 4) = false := dF he
      have HB2 := hQ HS.out.B.size
      have hb4 : Below wr.heap.size wr (wr.alloc (.cells #[.int .i64 0, .string ⟨#[98, 117, 115, 98, 97, 114]⟩, .int .i64 1, .string ⟨#[98, 49]⟩, .int .i64 2, .string ⟨#[49, 46, 48]⟩] 84)) := (Below.refl _ _).alloc (Nat.le_refl _) _
      have S4 := hQ (HS.out.below hb4)
      have T4 := hQ (HT.out.below hb4)
      have R4 := hQ (show Kd.R k84 84 (wr.alloc (.cells #[.int .i64 0, .string ⟨#[98, 117, 115, 98, 97, 114]⟩, .int .i64 1, .string ⟨#[98, 49]⟩, .int .i64 2, .string ⟨#[49, 46, 48]⟩] 84)) w.heap.size (fun _ => True) (.slice (some ⟨wr.heap.size, 0, none⟩) 3 3) qB from Vh (W := wr) k84 w.heap.size 84 (yJ.c2 (YG _ _ _ ⟨0, ⟨#[98, 117, 115, 98, 97, 114]⟩⟩) (yJ.c2 (YG _ _ _ ⟨1, ⟨#[98, 49]⟩⟩) (yJ.c2 (YG _ _ _ ⟨2, ⟨#[49, 46, 48]⟩⟩) (yJ.none _ _)))) HB2.out (by decide))
      clear hj0 he hg hl hb4 x0 x1 x2 x3 x4 x5 x6 x7 x8 x9 x10 x11 x12 f0
      obtain ⟨x0, x1, x2, x3, x4, x5, x6, x7, x8, x9, x10, x11, x12⟩ := S4.out.c
      obtain ⟨y0, y1, y2, y3, y4, y5, y6, y7, y8, y9, y10, y11, y12⟩ := T4.out.c
      have fx := fun i => zh S4.out.X i
      have fy := fun i => zh T4.out.X i
      go_wp2_with (fail)
      refine bodyPost_ret (v := .agg #[.slice A n c, .slice none 0 0, .int .i64 60000, .int .i64 100, .int .i64 32, .int .i64 8, .int .i64 10000, .int .i64 100, .int .i64 500, .int .i64 1024, .int .i64 1024, .int .u64 0, .slice (some ⟨wr.heap.size, 0, none⟩) 3 3]) ?_ rfl ⟨_, _, _, _, rfl, qN (g1 := w.heap.size + 1) (g2 := w.heap.size) (fun i h1 h2 => ?_) S4.out.X T4.out.X (by decide) R4.out, ?_⟩
      · simp [results, Tryz.results40, go_sem, hu30, y0, y1, y2, y3, y4, y5, y6, y7, y8, y9, y10, y11, y12]
      · iterate 13 rw [Below.heap_setCell _ _ _ i h2]
        rw [Below.heap_setCell _ _ _ i h1]
      · refine S4.out.B.trans ?_
        (repeat (with_reducible first | exact Below.refl _ _ | (refine jG ?_ (by omega))))
open Go.Proofs.YtlalbohhopmpdaaGreat.Tiny
theorem WJ (w : World) (t a b : Int) : Kd.C k78 (w.alloc (.cells #[.int .i64 t, .int .i64 a, .int .i64 b] 78)) (some ⟨w.heap.size, 0, none⟩) 1 [⟨t, a, b⟩] :=
  (Kd.zB (Vh (W := w) k78 0 78 (xs := [⟨t, a, b⟩]) (yJ.c3 (jm _ _ _ ⟨t, a, b⟩) (yJ.none _ _)) (Nat.zero_le _) (by simp))).2.2
theorem zdE {x s : S78} (h : jb (xI x s)) (j : Int) (h0 : 0 ≤ j) (h1 : j < [x].length) : jb (xI (zJ [x] j) s) := by
  obtain rfl : j = 0 := by simp at h1; omega
  exact h
def vV (t a b : Int) (r : Bool) : Prop := ∀ (W : World) (A : Option Addr) (c : Nat), Kd.C k81 W A 3 zY → Calls Tryz.prog 75 #[.slice A 3 c, .agg #[.int .i64 t, .int .i64 a, .int .i64 b]] W fun e w' => e = .returned (.bool r) ∧ Below W.heap.size W w'
def kT (t a b r : Int) : Prop := ∀ (W : World) (A : Option Addr) (c : Nat), Kd.C k78 W A 5 yA → 5 ≤ c → Calls Tryz.prog 74 #[.slice A 5 c, .int .i64 100, .agg #[.int .i64 t, .int .i64 a, .int .i64 b]] W fun e w' => e = .returned (.int .i64 r) ∧ Below W.heap.size W w'
theorem zbc (w : World) (A : Option Addr) (c : Nat) (l : List S81) (t a b : Int) (hC : Kd.C k81 w A l.length l) (hl : l.length ≤ 1000)
    (hR : ∀ j : Int, 0 ≤ j → j < l.length → wrap64 ((zH l j).f1 + (zH l j).f2) = (zH l j).f1 + (zH l j).f2)
    (hM : ∀ j : Int, 0 ≤ j → j < l.length → jb (xI ⟨(zH l j).f0, (zH l j).f1, (zH l j).f1 + (zH l j).f2⟩ ⟨t, a, b⟩)) :
    Calls Tryz.prog 75 #[.slice A l.length c, .agg #[.int .i64 t, .int .i64 a, .int .i64 b]] w fun e w' => e = .returned (.bool false) ∧ Below w.heap.size w w' := by
  have hu81 := Tryz.underlying81
  have hu78 := Tryz.underlying78
  have hu26 := Tryz.underlying26
  have hb0 : Below w.heap.size w (w.alloc (.cells #[.int .i64 t, .int .i64 a, .int .i64 b] 78)) := (Below.refl _ _).alloc (Nat.le_refl _) _
  have B0 := hQ hb0
  have S0 := hQ (zi w (.cells #[.int .i64 t, .int .i64 a, .int .i64 b] 78 (0, 0)))
  have HC := hQ hC
  have HL := hQ hl
  have HRW := hQ hR
  have HM := hQ hM
  clear hC hl hR hM hb0
  go_enter Tryz.func75, Tryz.ntmps75
  go_wp2_with (fail)
  go_loopg [10] l.length (fun g_ v10 wx => ∃ j : Int, 0 ≤ j ∧ (g_ : Int) = l.length - j ∧ v10 = .int .i64 j ∧ ze (Below w.heap.size w wx) ∧ ze (wx.heap[w.heap.size]? = some (.cells #[.int .i64 t, .int .i64 a, .int .i64 b] 78 (0, 0))))
  case atStart => exact ⟨0, by omega, by omega, rfl, ⟨B0.out⟩, ⟨S0.out⟩⟩
  case round =>
    obtain ⟨j, hj0, hg, rfl, HB, HS⟩ := hrel
    by_cases he : j < (l.length : Int)
    · have hd : decide (j < (l.length : Int)) = true := dT he
      have HE := hQ (show 0 ≤ j ∧ j < (l.length : Int) ∧ (gk : Int) = l.length - j from ⟨hj0, he, hg⟩)
      obtain ⟨ad, e, hx0, hx1, hx2⟩ := Vd (Kd.zx HC.out HB.out) j hj0 he
      cases e
      have p0 : (0 ≤ j) = True := eq_true hj0
      have q0 : (j < (l.length : Int)) = True := eq_true he
      have hw1 : wrap64 (j + 1) = j + 1 := zu (by have := HL.out; omega) (by have := HL.out; omega)
      have hb1 : Below wr.heap.size wr (wr.alloc (.cells #[.int .i64 (zH l j).f0, .int .i64 (zH l j).f1, .int .i64 (zH l j).f2] 81)) := (Below.refl _ _).alloc (Nat.le_refl _) _
      have B1 := hQ (zf HB.out HB.out.size hb1)
      have S1 := hQ (zb HS.out hb1)
      obtain ⟨s0, s1, s2⟩ := zS (zi wr (.cells #[.int .i64 (zH l j).f0, .int .i64 (zH l j).f1, .int .i64 (zH l j).f2] 81 (0, 0)))
      clear hb1 hj0 hg he
      go_wp2_with (fail)
      refine (zaI _ (zH l j).f0 (zH l j).f1 (zH l j).f2 (HRW.out j HE.out.1 HE.out.2.1)).mono ?_
      rintro e w2 ⟨rfl, hb⟩
      have hb3 : Below w2.heap.size w2 ((w2.alloc (.cells #[.int .i64 (zH l j).f0, .int .i64 (zH l j).f1, .int .i64 ((zH l j).f1 + (zH l j).f2)] 78)).drew) := zl ((Below.refl _ _).alloc (Nat.le_refl _) _)
      have B3 := hQ (zf (zf B1.out B1.out.size hb) (Nat.le_trans B1.out.size hb.size) hb3)
      have S3 := hQ (zb (zb S1.out hb) hb3)
      have C3_ := hQ (Kd.zx (WJ w2 (zH l j).f0 (zH l j).f1 ((zH l j).f1 + (zH l j).f2)) (zl (Below.refl _ _)))
      clear hb hb3 s0 s1 s2
      go_wp2_with (fail)
      --WALK
      refine sq_ (ds := []) #[false, false, false, false, false, false, false, false, false, false, false, false] (fun w' => w'.cell? ⟨w.heap.size, 0, none⟩ = some (.int .i64 t) ∧ w'.cell? ⟨w.heap.size, 1, none⟩ = some (.int .i64 a) ∧ w'.cell? ⟨w.heap.size, 2, none⟩ = some (.int .i64 b)) ⟨za S3.out 0, za S3.out 1, za S3.out 2⟩ (fun hHeld => ?_)
      refine pq_ 0 (some 17) ?_
      refine tq_ 1 (some 18) hHeld ?_
      refine oq_ 2 (some 19) (fun K hK => ?_)
      refine yh Tryz.func91 (by kernel_rfl) rfl #[.slice (some ⟨w2.heap.size, 0, none⟩) 1 1, .agg #[.int .i64 t, .int .i64 a, .int .i64 b]] (by rfl) rfl rfl (by (try simp only [List.map_toArray, List.map_cons, List.map_nil]); first | done | rfl) ?_
      refine (VQ _ _ 1 [⟨(zH l j).f0, (zH l j).f1, (zH l j).f1 + (zH l j).f2⟩] ⟨t, a, b⟩ C3_.out (by simp) (zdE (HM.out j HE.out.1 HE.out.2.1))).mono ?_
      rintro e w4 ⟨rfl, hb⟩
      refine ⟨_, rfl, ?_⟩
      have B4 := hQ (zf B3.out B3.out.size hb)
      have S4 := hQ (zb S3.out hb)
      clear hb
      refine hK.out _ _ ⟨za S4.out 0, za S4.out 1, za S4.out 2⟩ (fun hHeld => ?_)
      clear hK K
      refine nq_ ?_
      refine pq_ 3 (some 20) ?_
      refine uq_ 4 (some 21) ?_
      refine uq_ 5 (some 22) ?_
      refine uq_ 6 (some 23) ?_
      refine uq_ 7 (some 24) ?_
      refine uq_ 8 (some 25) ?_
      refine uq_ 9 (some 26) ?_
      refine uq_ 10 (some 27) ?_
      refine pq_ 11 (some 28) ?_
      refine xJ (by kernel_rfl) ?_
      --END
      all_goals
        go_wp2
        go_roundg (l.length - (j + 1)).toNat
        case measure => have := HE.out; omega
        case rel => have := HE.out; exact ⟨j + 1, by omega, by omega, by first | rfl | rw [hw1], ⟨B4.out⟩, ⟨S4.out⟩⟩
    · have hd : decide (j < (l.length : Int)) = false := dF he
      clear he hj0 hg
      go_wp2
      exact bodyPost_ret (v := .bool false) (by simp [results, Tryz.results75, go_sem]) rfl ⟨rfl, HB.out⟩
theorem zdZ {x s : S78} {rc : Bool} (h : if rc then xI x s = s else xI x s ≠ s) : if rc then ∃ j : Int, 0 ≤ j ∧ j < [x].length ∧ xI (zJ [x] j) s = s else QQ [x] s [x].length := by
  cases rc with
  | true => exact ⟨0, by decide, by simp, h⟩
  | false =>
    intro i h0 h1
    obtain rfl : i = 0 := by simp at h1; omega
    exact h
theorem Qd (t a b : Int) (rc : Bool) (h1 : Yk ⟨t, a, b⟩) (h2 : if rc then xI ⟨2, 100, 108⟩ ⟨t, a, b⟩ = ⟨t, a, b⟩ else xI ⟨2, 100, 108⟩ ⟨t, a, b⟩ ≠ ⟨t, a, b⟩) (h3 : rc = false → ∃ j : Int, 0 ≤ j ∧ j < yA.length ∧ xI (zJ yA j) ⟨t, a, b⟩ = ⟨t, a, b⟩) : kT t a b (if rc then 2 else 1) := by
  intro w A c hC hc
  have hu78 := Tryz.underlying78
  have B0 := hQ (show Below w.heap.size w (w.alloc (.cells #[.int .i64 t, .int .i64 a, .int .i64 b] 78)) from (Below.refl _ _).alloc (Nat.le_refl _) _)
  have S0 := hQ (zi w (.cells #[.int .i64 t, .int .i64 a, .int .i64 b] 78 (0, 0)))
  obtain ⟨s0, s1, s2⟩ := zS S0.out
  have HC := hQ hC
  have HCC := hQ hc
  have H1 := hQ h1
  have H2 := hQ h2
  have H3 := hQ h3
  clear hC hc h1 h2 h3
  go_enter Tryz.func74, Tryz.ntmps74
  go_wp2_with (fail)
  refine (YK _ t a b true H1.out.1 (dT H1.out.2)).mono ?_
  rintro e w1 ⟨rfl, hb⟩
  have B1 := hQ (zf B0.out B0.out.size hb)
  have S1 := hQ (zb S0.out hb)
  clear hb s0 s1 s2
  go_wp2_with (fail)
  have S2 := hQ (zb S1.out (zl (Below.refl w1.heap.size w1)))
  have B2 := hQ (zf B1.out B1.out.size (zl (Below.refl w1.heap.size w1)))
  obtain ⟨s0, s1, s2⟩ := zS S2.out
  go_region_law (first | (go_simp; go_at_call 92; refine (XD _).mono ?_; rintro e w3 ⟨rfl, hb⟩; have B3 := hQ (zf B2.out B2.out.size hb); have S3 := hQ (zb S2.out hb); have hb4 : Below w3.heap.size w3 (w3.alloc (.cells #[.int .i64 2, .int .i64 100, .int .i64 108] 78)) := (Below.refl _ _).alloc (Nat.le_refl _) _; have B4 := hQ (zf B3.out B3.out.size hb4); have S4 := hQ (zb S3.out hb4); have C4 := hQ (WJ w3 2 100 108); clear hb hb4 s0 s1 s2; obtain ⟨s0, s1, s2⟩ := zS S3.out; obtain ⟨t0, t1, t2⟩ := zS S4.out) | (go_simp; go_at_call 95; refine (ZH _ _ 1 [⟨2, 100, 108⟩] ⟨t, a, b⟩ rc C4.out (by decide) (zdZ H2.out)).mono ?_; rintro e w5 ⟨rfl, hb⟩; have B5 := hQ (zf B4.out B4.out.size hb); have S5 := hQ (zb S4.out hb); clear hb s0 s1 s2 t0 t1 t2; obtain ⟨s0, s1, s2⟩ := zS S5.out))
  all_goals
    cases rc
    · go_wp2_with (fail)
      refine (ZH _ A c yA ⟨t, a, b⟩ true (Kd.zx HC.out B5.out) (by decide) (H3.out (by first | rfl | trivial))).mono ?_
      rintro e w6 ⟨rfl, hb⟩
      have B6 := hQ (zf B5.out B5.out.size hb)
      clear hb
      go_wp2
      exact bodyPost_ret (v := .int .i64 1) (by simp [results, Tryz.results74, go_sem]) rfl ⟨rfl, B6.out⟩
    · go_wp2
      exact bodyPost_ret (v := .int .i64 2) (by simp [results, Tryz.results74, go_sem]) rfl ⟨rfl, B5.out⟩
theorem Vv (j : Int) (h0 : 0 ≤ j) (h1 : j < zY.length) : zH zY j = ⟨2, 4, 2⟩ ∨ zH zY j = ⟨2, 8, 4⟩ ∨ zH zY j = ⟨3, 4, 4⟩ := by
  have : (zY.length : Int) = 3 := rfl
  obtain rfl | rfl | rfl : j = 0 ∨ j = 1 ∨ j = 2 := by omega
  · exact .inl rfl
  · exact .inr (.inl rfl)
  · exact .inr (.inr rfl)
theorem zam (t a b : Int) (h1 : jb (xI ⟨2, 4, 6⟩ ⟨t, a, b⟩)) (h2 : jb (xI ⟨2, 8, 12⟩ ⟨t, a, b⟩)) (h3 : jb (xI ⟨3, 4, 8⟩ ⟨t, a, b⟩)) : vV t a b false := fun W A c hC =>
  zbc W A c zY t a b hC (by decide) (fun j h0 h1 => by rcases Vv j h0 h1 with e | e | e <;> (rw [e]; exact VP _ _ (by decide)))
    (fun j h0 hl => by
      rcases Vv j h0 hl with e | e | e <;> rw [e]
      · exact h1
      · exact h2
      · exact h3)
theorem zaV {a : Int} (ha : okA a) : (a = 0 ∨ a = 2) ∨ (24 ≤ a ∧ a < 40) := by
  unfold okA at ha
  omega
theorem YY (a : Int) (ha : okA a) : kT 2 a (a + 1) 1 :=
  Qd 2 a (a + 1) false (vR (P := fun a => Yk ⟨2, a, a + 1⟩) (by decide +kernel) (by decide +kernel) (by decide +kernel) a ha) (show xI ⟨2, 100, 108⟩ ⟨2, a, a + 1⟩ ≠ ⟨2, a, a + 1⟩ from fun h => by
    have h1 := congrArg S78.f1 h
    have h2 : (xI ⟨2, 100, 108⟩ ⟨2, a, a + 1⟩).f1 = if (100 : Int) < a then a else 100 := rfl
    rw [h2] at h1
    have h3 : (if (100 : Int) < a then a else 100) = a := h1
    have := kZ ha
    have := zaV ha
    split at h3 <;> omega) (fun _ => by
    have hb : ∀ (x y : Int), x ≤ a → a + 1 ≤ y → xI ⟨2, x, y⟩ ⟨2, a, a + 1⟩ = ⟨2, a, a + 1⟩ := fun x y h1 h2 => by
      unfold xI
      rw [if_pos rfl]
      have e1 : (if x < a then a else x) = a := by split <;> omega
      have e2 : (if a + 1 < y then a + 1 else y) = a + 1 := by split <;> omega
      show (⟨2, (if x < a then a else x), (if a + 1 < y then a + 1 else y)⟩ : S78) = _
      rw [e1, e2]
    rcases zaV ha with h | h
    · exact ⟨2, by decide, by decide, hb 0 20 (by omega) (by omega)⟩
    · exact ⟨3, by decide, by decide, hb 24 40 (by omega) (by omega)⟩)
theorem Je (x y a b : Int) (h1 : x ≤ a) (h2 : b ≤ y) : xI ⟨2, x, y⟩ ⟨2, a, b⟩ = ⟨2, a, b⟩ := by
  unfold xI
  rw [if_pos rfl]
  have e1 : (if x < a then a else x) = a := by split <;> omega
  have e2 : (if b < y then b else y) = b := by split <;> omega
  show (⟨2, (if x < a then a else x), (if b < y then b else y)⟩ : S78) = _
  rw [e1, e2]
theorem Kv : kT 2 100 101 2 := Qd 2 100 101 true (by decide) (Je 100 108 100 101 (by decide) (by decide)) (fun h => by cases h)
theorem Wt : kT 2 24 40 1 := Qd 2 24 40 false (by decide) (show xI ⟨2, 100, 108⟩ ⟨2, 24, 40⟩ ≠ ⟨2, 24, 40⟩ from fun h => absurd (congrArg S78.f1 h) (by decide)) (fun _ => ⟨3, by decide, by decide, Je 24 40 24 40 (by decide) (by decide)⟩)
theorem VX (a : Int) (ha : okA a) : vV 2 a (a + 1) false :=
  zam 2 a (a + 1) (vR (P := fun a => jb (xI ⟨2, 4, 6⟩ ⟨2, a, a + 1⟩)) (by decide +kernel) (by decide +kernel) (by decide +kernel) a ha) (vR (P := fun a => jb (xI ⟨2, 8, 12⟩ ⟨2, a, a + 1⟩)) (by decide +kernel) (by decide +kernel) (by decide +kernel) a ha) (vR (P := fun a => jb (xI ⟨3, 4, 8⟩ ⟨2, a, a + 1⟩)) (by decide +kernel) (by decide +kernel) (by decide +kernel) a ha)
def xR (m g o : Value) : Array Value := #[m, g, .int .i64 100, .int .i64 1000, .int .i64 8, .int .i64 8, .int .i64 100000, .int .i64 500, .int .i64 2000, .int .i64 1024, .int .i64 1024, .int .u64 0, o]
theorem Xk {w : World} {g t : Nat} {v0 v1 v2 v3 v4 v5 v6 v7 v8 v9 v10 v11 v12 : Value} (h : w.heap[g]? = some (.cells #[v0, v1, v2, v3, v4, v5, v6, v7, v8, v9, v10, v11, v12] t (0, 0))) :
    w.cell? ⟨g, 0, none⟩ = some v0 ∧ w.cell? ⟨g, 1, none⟩ = some v1 ∧ w.cell? ⟨g, 2, none⟩ = some v2 ∧ w.cell? ⟨g, 3, none⟩ = some v3 ∧ w.cell? ⟨g, 4, none⟩ = some v4 ∧ w.cell? ⟨g, 5, none⟩ = some v5 ∧ w.cell? ⟨g, 6, none⟩ = some v6 ∧ w.cell? ⟨g, 7, none⟩ = some v7 ∧ w.cell? ⟨g, 8, none⟩ = some v8 ∧ w.cell? ⟨g, 9, none⟩ = some v9 ∧ w.cell? ⟨g, 10, none⟩ = some v10 ∧ w.cell? ⟨g, 11, none⟩ = some v11 ∧ w.cell? ⟨g, 12, none⟩ = some v12 :=
  ⟨za h 0, za h 1, za h 2, za h 3, za h 4, za h 5, za h 6, za h 7, za h 8, za h 9, za h 10, za h 11, za h 12⟩
structure Qv (w : World) (cb : Nat) : Prop where
  at_ : ∃ Am cm Ag cg o, w.heap[cb]? = some (.cells (xR (.slice Am 5 cm) (.slice Ag 3 cg) o) 30 (0, 0)) ∧ 5 ≤ cm ∧ 3 ≤ cg ∧ Kd.C k78 w Am 5 yA ∧ Kd.C k81 w Ag 3 zY
theorem zcJ (w : World) (cb wb : Nat) (wh t a b r : Int) (hc : Qv w cb) (hw : w.cell? ⟨wb, 0, none⟩ = some (.int .i64 wh)) (h : kT t a b r) :
    Calls Tryz.prog 139 #[.agg #[.int .i64 t, .int .i64 a, .int .i64 b], .pointer (some ⟨cb, 0, none⟩), .pointer (some ⟨wb, 0, none⟩)] w fun e w' => e = .returned (.bool (r == wh)) ∧ Below w.heap.size w w' := by
  have hu78 := Tryz.underlying78
  have hu30 := Tryz.underlying30
  obtain ⟨Am, cm, Ag, cg, o, h1, h2, h3, h4, h5⟩ := hc.at_
  obtain ⟨W1, hW1⟩ : ∃ W1, W1 = (w.alloc (.cells #[.int .i64 t, .int .i64 a, .int .i64 b] 78)).drew := ⟨_, rfl⟩
  have hb1 : Below w.heap.size w W1 := by rw [hW1]; exact zl ((Below.refl _ _).alloc (Nat.le_refl _) _)
  have B1 := hQ hb1
  have X1 := hQ (zb h1 hb1)
  have Y1 := hQ (show W1.heap[w.heap.size]? = some (.cells #[.int .i64 t, .int .i64 a, .int .i64 b] 78 (0, 0)) by rw [hW1]; exact zn (zi w _))
  have M1 := hQ (Kd.zx h4 hb1)
  have Z1 := hQ ((hb1.cell (World.block_lt_of_cell? _ _ hw)).trans hw)
  have HM := hQ h2
  have H := hQ h
  rw [hW1] at B1 X1 M1 Z1 Y1
  simp only [xR] at X1
  clear h1 h2 h3 h4 h5 hw h hb1 hW1
  go_enter Tryz.func139, Tryz.ntmps139
  go_wp2_with (fail)
--WALKA
  refine sq_ (ds := []) #[false, false, false, false, false, false, false, false, false] (fun w' => w'.cell? ⟨cb, 0, none⟩ = some (.slice Am 5 cm) ∧ w'.cell? ⟨cb, 2, none⟩ = some (.int .i64 100) ∧ w'.cell? ⟨w.heap.size, 0, none⟩ = some (.int .i64 t) ∧ w'.cell? ⟨w.heap.size, 1, none⟩ = some (.int .i64 a) ∧ w'.cell? ⟨w.heap.size, 2, none⟩ = some (.int .i64 b) ∧ w'.cell? ⟨wb, 0, none⟩ = some (.int .i64 wh)) ⟨za X1.out 0, za X1.out 2, za Y1.out 0, za Y1.out 1, za Y1.out 2, Z1.out⟩ (fun hHeld => ?_)
  refine pq_ 0 (some 5) ?_
  refine pq_ 2 (some 7) ?_
  refine tq_ 1 (some 6) hHeld ?_
  refine tq_ 3 (some 8) hHeld ?_
  refine tq_ 4 (some 9) hHeld ?_
  refine tq_ 6 (some 11) hHeld ?_
  refine oq_ 5 (some 10) (fun K hK => ?_)
  refine yh Tryz.func74 (by kernel_rfl) rfl #[.slice Am 5 cm, .int .i64 100, .agg #[.int .i64 t, .int .i64 a, .int .i64 b]] (by rfl) rfl rfl (by (try simp only [List.map_toArray, List.map_cons, List.map_nil]); first | done | rfl) ?_
  refine (H.out _ Am cm M1.out HM.out).mono ?_
  rintro e w2 ⟨rfl, hb⟩
  refine ⟨_, rfl, ?_⟩
  have B2 := hQ (zf B1.out B1.out.size hb)
  have X2 := hQ (zb X1.out hb)
  have Y2 := hQ (zb Y1.out hb)
  have Z2 := hQ ((hb.cell (World.block_lt_of_cell? _ _ Z1.out)).trans Z1.out)
  clear hb
  refine hK.out _ _ ⟨za X2.out 0, za X2.out 2, za Y2.out 0, za Y2.out 1, za Y2.out 2, Z2.out⟩ (fun hHeld => ?_)
  clear hK K
  refine nq_ ?_
  refine pq_ 7 (some 12) ?_
  refine pq_ 8 (some 4) ?_
  refine xJ (by kernel_rfl) ?_
  --ENDA
  go_wp2
  exact bodyPost_ret (v := .bool (r == wh)) (by simp [results, Tryz.results139, go_sem]) rfl ⟨rfl, B2.out⟩
theorem zcI (w : World) (cb : Nat) (t a b : Int) (r : Bool) (hc : Qv w cb) (h : vV t a b r) :
    Calls Tryz.prog 140 #[.agg #[.int .i64 t, .int .i64 a, .int .i64 b], .pointer (some ⟨cb, 0, none⟩)] w fun e w' => e = .returned (.bool r) ∧ Below w.heap.size w w' := by
  have hu78 := Tryz.underlying78
  have hu30 := Tryz.underlying30
  obtain ⟨Am, cm, Ag, cg, o, h1, h2, h3, h4, h5⟩ := hc.at_
  obtain ⟨W1, hW1⟩ : ∃ W1, W1 = w.alloc (.cells #[.int .i64 t, .int .i64 a, .int .i64 b] 78) := ⟨_, rfl⟩
  have hb1 : Below w.heap.size w W1 := by rw [hW1]; exact (Below.refl _ _).alloc (Nat.le_refl _) _
  have B1 := hQ hb1
  have X1 := hQ (zb h1 hb1)
  have M1 := hQ (Kd.zx h5 hb1)
  have HM := hQ h3
  have H := hQ h
  rw [hW1] at B1 X1 M1
  simp only [xR] at X1
  clear h1 h2 h3 h4 h5 h hb1 hW1
  obtain ⟨x0, x1, x2, x3, x4, x5, x6, x7, x8, x9, x10, x11, x12⟩ := Xk X1.out
  go_enter Tryz.func140, Tryz.ntmps140
  go_wp2_with (fail)
  refine (H.out _ Ag cg M1.out).mono ?_
  rintro e w2 ⟨rfl, hb⟩
  have B2 := hQ (zf B1.out B1.out.size hb)
  clear hb
  go_wp2
  exact bodyPost_ret (v := .bool r) (by simp [results, Tryz.results140, go_sem]) rfl ⟨rfl, B2.out⟩
theorem Km (w : World) (g c : Nat) (cb wb : Nat) (wh t a b r : Int) (i0 : w.cell? ⟨g, 0, none⟩ = some (.int .i64 t)) (i1 : w.cell? ⟨g, 1, none⟩ = some (.int .i64 a)) (i2 : w.cell? ⟨g, 2, none⟩ = some (.int .i64 b)) (hc : Qv w cb) (hw : w.cell? ⟨wb, 0, none⟩ = some (.int .i64 wh)) (h : kT t a b r) (hb0 : (r == wh) = true) :
    Calls Tryz.prog 174 #[.slice (some ⟨g, 0, none⟩) 1 c, .func (.func 139) #[] #[.pointer (some ⟨cb, 0, none⟩), .pointer (some ⟨wb, 0, none⟩)]] w fun e w' => e = .returned (.int .i64 (0)) ∧ Below w.heap.size w w' := by
  have hu78 := Tryz.underlying78
  have hF := zcJ w cb wb wh t a b r hc hw h
  rw [hb0] at hF
  clear hb0
  go_enter Tryz.func174, Tryz.ntmps174
  go_wp2_with (fail)
  refine wp_loop_rounds 2 ?_
  rw [rounds_succ]
  go_wp2_with (fail)
  go_at_call 139
  refine hF.mono ?_
  rintro e w2 ⟨rfl, hb⟩
  have HB := hQ hb
  clear hb
  go_wp2
  go_ret
  exact ⟨rfl, HB.out⟩
theorem KY (w : World) (g c : Nat) (cb wb : Nat) (wh t a b r : Int) (i0 : w.cell? ⟨g, 0, none⟩ = some (.int .i64 t)) (i1 : w.cell? ⟨g, 1, none⟩ = some (.int .i64 a)) (i2 : w.cell? ⟨g, 2, none⟩ = some (.int .i64 b)) (hc : Qv w cb) (hw : w.cell? ⟨wb, 0, none⟩ = some (.int .i64 wh)) (h : kT t a b r) (hb0 : (r == wh) = false) :
    Calls Tryz.prog 174 #[.slice (some ⟨g, 0, none⟩) 1 c, .func (.func 139) #[] #[.pointer (some ⟨cb, 0, none⟩), .pointer (some ⟨wb, 0, none⟩)]] w fun e w' => e = .returned (.int .i64 (-1)) ∧ Below w.heap.size w w' := by
  have hu78 := Tryz.underlying78
  have hF := zcJ w cb wb wh t a b r hc hw h
  rw [hb0] at hF
  clear hb0
  go_enter Tryz.func174, Tryz.ntmps174
  go_wp2_with (fail)
  refine wp_loop_rounds 2 ?_
  rw [rounds_succ]
  go_wp2_with (fail)
  go_at_call 139
  refine hF.mono ?_
  rintro e w2 ⟨rfl, hb⟩
  have HB := hQ hb
  clear hb
  go_wp2_with (fail)
  rw [rounds_succ]
  go_wp2_with (fail)
  go_wp2
  go_ret
  exact ⟨rfl, HB.out⟩
theorem qZ (w : World) (g c : Nat) (cb wb : Nat) (wh t a b r : Int) (i0 : w.cell? ⟨g, 0, none⟩ = some (.int .i64 t)) (i1 : w.cell? ⟨g, 1, none⟩ = some (.int .i64 a)) (i2 : w.cell? ⟨g, 2, none⟩ = some (.int .i64 b)) (hc : Qv w cb) (hw : w.cell? ⟨wb, 0, none⟩ = some (.int .i64 wh)) (h : kT t a b r) :
    Calls Tryz.prog 141 #[.slice (some ⟨g, 0, none⟩) 1 c, .func (.func 139) #[] #[.pointer (some ⟨cb, 0, none⟩), .pointer (some ⟨wb, 0, none⟩)]] w fun e w' => e = .returned (.bool ((r == wh))) ∧ Below w.heap.size w w' := by
  by_cases hr : (r == wh) = true
  · have hI := Km w g c cb wb wh t a b r i0 i1 i2 hc hw h hr
    rw [hr]
    clear hr
    go_enter Tryz.func141, Tryz.ntmps141
    go_wp2_with (fail)
    refine hI.mono ?_
    rintro e w2 ⟨rfl, hb⟩
    have HB := hQ hb
    clear hb
    go_wp2
    go_ret
    exact ⟨rfl, HB.out⟩
  · have hr2 : (r == wh) = false := by simpa using hr
    have hI := KY w g c cb wb wh t a b r i0 i1 i2 hc hw h hr2
    rw [hr2]
    clear hr hr2
    go_enter Tryz.func141, Tryz.ntmps141
    go_wp2_with (fail)
    refine hI.mono ?_
    rintro e w2 ⟨rfl, hb⟩
    have HB := hQ hb
    clear hb
    go_wp2
    go_ret
    exact ⟨rfl, HB.out⟩
theorem KH (w : World) (g c : Nat) (cb : Nat) (t a b : Int) (r : Bool) (i0 : w.cell? ⟨g, 0, none⟩ = some (.int .i64 t)) (i1 : w.cell? ⟨g, 1, none⟩ = some (.int .i64 a)) (i2 : w.cell? ⟨g, 2, none⟩ = some (.int .i64 b)) (hc : Qv w cb) (h : vV t a b r) (hb0 : r = true) :
    Calls Tryz.prog 174 #[.slice (some ⟨g, 0, none⟩) 1 c, .func (.func 140) #[] #[.pointer (some ⟨cb, 0, none⟩)]] w fun e w' => e = .returned (.int .i64 (0)) ∧ Below w.heap.size w w' := by
  have hu78 := Tryz.underlying78
  have hF := zcI w cb t a b r hc h
  rw [hb0] at hF
  clear hb0
  go_enter Tryz.func174, Tryz.ntmps174
  go_wp2_with (fail)
  refine wp_loop_rounds 2 ?_
  rw [rounds_succ]
  go_wp2_with (fail)
  go_at_call 140
  refine hF.mono ?_
  rintro e w2 ⟨rfl, hb⟩
  have HB := hQ hb
  clear hb
  go_wp2
  go_ret
  exact ⟨rfl, HB.out⟩
theorem KT (w : World) (g c : Nat) (cb : Nat) (t a b : Int) (r : Bool) (i0 : w.cell? ⟨g, 0, none⟩ = some (.int .i64 t)) (i1 : w.cell? ⟨g, 1, none⟩ = some (.int .i64 a)) (i2 : w.cell? ⟨g, 2, none⟩ = some (.int .i64 b)) (hc : Qv w cb) (h : vV t a b r) (hb0 : r = false) :
    Calls Tryz.prog 174 #[.slice (some ⟨g, 0, none⟩) 1 c, .func (.func 140) #[] #[.pointer (some ⟨cb, 0, none⟩)]] w fun e w' => e = .returned (.int .i64 (-1)) ∧ Below w.heap.size w w' := by
  have hu78 := Tryz.underlying78
  have hF := zcI w cb t a b r hc h
  rw [hb0] at hF
  clear hb0
  go_enter Tryz.func174, Tryz.ntmps174
  go_wp2_with (fail)
  refine wp_loop_rounds 2 ?_
  rw [rounds_succ]
  go_wp2_with (fail)
  go_at_call 140
  refine hF.mono ?_
  rintro e w2 ⟨rfl, hb⟩
  have HB := hQ hb
  clear hb
  go_wp2_with (fail)
  rw [rounds_succ]
  go_wp2_with (fail)
  go_wp2
  go_ret
  exact ⟨rfl, HB.out⟩
theorem QX (w : World) (g c : Nat) (cb : Nat) (t a b : Int) (r : Bool) (i0 : w.cell? ⟨g, 0, none⟩ = some (.int .i64 t)) (i1 : w.cell? ⟨g, 1, none⟩ = some (.int .i64 a)) (i2 : w.cell? ⟨g, 2, none⟩ = some (.int .i64 b)) (hc : Qv w cb) (h : vV t a b r) :
    Calls Tryz.prog 141 #[.slice (some ⟨g, 0, none⟩) 1 c, .func (.func 140) #[] #[.pointer (some ⟨cb, 0, none⟩)]] w fun e w' => e = .returned (.bool (r)) ∧ Below w.heap.size w w' := by
  by_cases hr : r = true
  · have hI := KH w g c cb t a b r i0 i1 i2 hc h hr
    rw [hr]
    clear hr
    go_enter Tryz.func141, Tryz.ntmps141
    go_wp2_with (fail)
    refine hI.mono ?_
    rintro e w2 ⟨rfl, hb⟩
    have HB := hQ hb
    clear hb
    go_wp2
    go_ret
    exact ⟨rfl, HB.out⟩
  · have hr2 : r = false := by simpa using hr
    have hI := KT w g c cb t a b r i0 i1 i2 hc h hr2
    rw [hr2]
    clear hr hr2
    go_enter Tryz.func141, Tryz.ntmps141
    go_wp2_with (fail)
    refine hI.mono ?_
    rintro e w2 ⟨rfl, hb⟩
    have HB := hQ hb
    clear hb
    go_wp2
    go_ret
    exact ⟨rfl, HB.out⟩
theorem QE (w : World) (f : Value) :
    Calls Tryz.prog 141 #[.slice none 0 0, f] w fun e w' => e = .returned (.bool false) ∧ Below w.heap.size w w' := by
  have hI : Calls Tryz.prog 174 #[.slice none 0 0, f] w fun e w' => e = .returned (.int .i64 (-1)) ∧ Below w.heap.size w w' := by
    go_enter Tryz.func174, Tryz.ntmps174
    go_wp2_with (fail)
    refine wp_loop_rounds 1 ?_
    rw [rounds_succ]
    go_wp2_with (fail)
    go_wp2
    go_ret
    exact ⟨rfl, Below.refl _ _⟩
  go_enter Tryz.func141, Tryz.ntmps141
  go_wp2_with (fail)
  refine hI.mono ?_
  rintro e w2 ⟨rfl, hb⟩
  have HB := hQ hb
  clear hb
  go_wp2
  go_ret
  exact ⟨rfl, HB.out⟩
theorem VD (w : World) :
    Calls Tryz.prog 173 #[.slice none 0 0, .int .i64 1] w fun e w' => ∃ v, e = .returned v ∧ Kd.R k78 78 w' w.heap.size (fun _ => True) v [] ∧ Below w.heap.size w w' := by
  go_enter Tryz.func173, Tryz.ntmps173
  go_wp2_with (first | ((with_reducible refine yj (b := .append) (xs := #[.tmp 20, .tmp 21]) (ts := #[25, 3]) rfl ?_); refine Kd.YP k78 (w0 := w) w.heap.size rfl (.tmp 20) (.tmp 21) 25 3 78 (.agg #[(.int .i64 0), (.int .i64 0), (.int .i64 0)]) 24 rfl Tryz.underlying25 Tryz.underlying3 ve rfl (by decide) (by omega) (.slice none 0 0) ([] : List S78) (⟨0, 0, 0⟩ : S78) (kx := .i64) 1 (fun _ => True) rfl rfl (jm _ _ _ ⟨0, 0, 0⟩) (fun _ _ => trivial) (Kd.ql _ _ _ _ _) (by omega) (Below.refl _ _) (Nat.le_refl _) (by simp) ?_; intro v1 w1 ho hb hg_ hat_; obtain ⟨g1, c1, rfl, _, hc1, _⟩ := Kd.qm ho (by simp); have HO := hQ ho; have HB := hQ hb; have HC := hQ hc1; clear ho hb hg_ hat_ hc1))
  exact bodyPost_ret (v := .slice (some ⟨g1, 0, none⟩) 0 c1) (by simp [results, Tryz.results173, go_sem]) rfl ⟨_, rfl, Kd.zdu (m := 0) HO.out (by simp), HB.out⟩
theorem zcP {w : World} {g : Nat} {t a b : Int} (h : w.heap[g]? = some (.cells #[.int .i64 t, .int .i64 a, .int .i64 b] 78 (0, 0))) : Kd.C k78 w (some ⟨g, 0, none⟩) 1 [⟨t, a, b⟩] := by
  refine ⟨rfl, by decide, fun _ => ⟨⟨g, 0, none⟩, rfl, fun j p hj => ?_⟩⟩
  obtain ⟨hl, hp⟩ := List.getElem?_eq_some_iff.1 hj
  have hj0 : j = 0 := by simp at hl; omega
  subst hj0
  have hp' : (⟨t, a, b⟩ : S78) = p := hp
  subst hp'
  refine ⟨[.int .i64 t, .int .i64 a, .int .i64 b], rfl, zda w ⟨t, a, b⟩, fun i u hu => ?_⟩
  have h0 := za h 0
  have h1 := za h 1
  have h2 := za h 2
  match i, hu with
  | 0, hu =>
    obtain rfl := Option.some.inj hu
    exact h0
  | 1, hu =>
    obtain rfl := Option.some.inj hu
    exact h1
  | 2, hu =>
    obtain rfl := Option.some.inj hu
    exact h2
  | i + 3, hu => cases hu
theorem zcp {w : World} {base : Nat} {ok : Nat → Prop} (y : S78) (cs : List Value) (h : k78.K w y cs) : k78.M w base ok y cs := by rw [Xg h]; exact jm _ _ _ y
theorem zav (w : World) (g gr : Nat) (t a b : Int) (hg : w.heap[g]? = some (.cells #[.slice (some ⟨gr, 0, none⟩) 1 1, .slice none 0 0] 25 (0, 0))) (hr : Kd.C k78 w (some ⟨gr, 0, none⟩) 1 [⟨t, a, b⟩]) :
    Calls Tryz.prog 137 #[.slice (some ⟨g, 0, none⟩) 2 2] w fun e w' => ∃ A c, e = .returned (.slice A 1 c) ∧ Kd.R k78 78 w' w.heap.size (fun _ => True) (.slice A 1 c) [⟨t, a, b⟩] ∧ Below w.heap.size w w' := by
  have x0 := za hg 0
  have x1 := za hg 1
  have x0 : w.cell? ⟨g, 0, none⟩ = some (.slice (some ⟨gr, 0, none⟩) 1 1) := x0
  have x1 : w.cell? ⟨g, 1, none⟩ = some (.slice none 0 0) := x1
  have X := hQ hg
  have C1 := hQ hr
  clear hg hr
  go_enter Tryz.func137, Tryz.ntmps137
  go_wp2_with (fail)
  refine wp_loop_rounds 3 ?_
  rw [rounds_succ]
  go_wp2_with (fail)
  rw [rounds_succ]
  go_wp2_with (fail)
  rw [rounds_succ]
  go_wp2_with (fail)
  refine (VD w).mono ?_
  rintro e w1 ⟨v0, rfl, hv, hb⟩
  have HV := hQ hv
  have HB := hQ hb
  have X1 := hQ (zb X.out hb)
  have y0 : w1.cell? ⟨g, 0, none⟩ = some (.slice (some ⟨gr, 0, none⟩) 1 1) := za X1.out 0
  have y1 : w1.cell? ⟨g, 1, none⟩ = some (.slice none 0 0) := za X1.out 1
  clear hv hb x0 x1
  go_wp2_with (fail)
  refine wp_loop_rounds 3 ?_
  rw [rounds_succ]
  go_wp2_with (first | ((with_reducible refine yj (b := .append) (xs := #[.tmp 31, .tmp 32]) (ts := #[25, 25]) rfl ?_); refine Kd.yD k78 (w0 := w) w.heap.size rfl (.tmp 31) (.tmp 32) 25 78 (.agg #[(.int .i64 0), (.int .i64 0), (.int .i64 0)]) 24 rfl Tryz.underlying25 ve rfl (by decide) (by omega) v0 [] [⟨t, a, b⟩] (some ⟨gr, 0, none⟩) 1 1 (fun _ => True) (fun _ => False) rfl rfl HV.out (Kd.zx C1.out HB.out) zcp (fun _ h => h.elim) (fun _ _ => trivial) HB.out HB.out.size (by simp) ?_; intro v1 w2 ho hb hg_ hat_; have HO := hQ ho; have HB2 := hQ hb; have X2 := hQ (zb X.out hb); have z0 : w2.cell? ⟨g, 0, none⟩ = _ := za X2.out 0; have z1 : w2.cell? ⟨g, 1, none⟩ = _ := za X2.out 1; clear ho hb hg_ hat_))
  rw [rounds_succ]
  go_wp2_with (first | ((with_reducible refine yj (b := .append) (xs := #[.tmp 31, .tmp 32]) (ts := #[25, 25]) rfl ?_); refine Kd.yD k78 (w0 := w) w.heap.size rfl (.tmp 31) (.tmp 32) 25 78 (.agg #[(.int .i64 0), (.int .i64 0), (.int .i64 0)]) 24 rfl Tryz.underlying25 ve rfl (by decide) (by omega) v1 [⟨t, a, b⟩] [] (none) 0 0 (fun _ => True) (fun _ => False) rfl rfl HO.out (Kd.ko _ _) zcp (fun _ h => h.elim) (fun _ _ => trivial) HB2.out HB2.out.size (by simp) ?_; intro v2 w3 ho hb hg_ hat_; have HO3 := hQ ho; have HB3 := hQ hb; clear ho hb hg_ hat_))
  rw [rounds_succ]
  go_wp2_with (fail)
  go_wp2
  have ho : Kd.R k78 78 w3 w.heap.size (fun _ => True) v2 [⟨t, a, b⟩] := HO3.out
  obtain ⟨A, c, hv2⟩ := Kd.yc ho
  have hv2' : v2 = .slice A 1 c := hv2
  subst hv2'
  exact bodyPost_ret (v := .slice A 1 c) (by simp [results, Tryz.results137, go_sem]) rfl ⟨A, c, rfl, ho, HB3.out⟩
theorem Kg (w : World) (g gr : Nat) (t a b : Int) (hg : w.heap[g]? = some (.cells #[.slice none 0 0, .slice (some ⟨gr, 0, none⟩) 1 1] 25 (0, 0))) (hr : Kd.C k78 w (some ⟨gr, 0, none⟩) 1 [⟨t, a, b⟩]) :
    Calls Tryz.prog 137 #[.slice (some ⟨g, 0, none⟩) 2 2] w fun e w' => ∃ A c, e = .returned (.slice A 1 c) ∧ Kd.R k78 78 w' w.heap.size (fun _ => True) (.slice A 1 c) [⟨t, a, b⟩] ∧ Below w.heap.size w w' := by
  have x0 := za hg 0
  have x1 := za hg 1
  have x0 : w.cell? ⟨g, 0, none⟩ = some (.slice none 0 0) := x0
  have x1 : w.cell? ⟨g, 1, none⟩ = some (.slice (some ⟨gr, 0, none⟩) 1 1) := x1
  have X := hQ hg
  have C1 := hQ hr
  clear hg hr
  go_enter Tryz.func137, Tryz.ntmps137
  go_wp2_with (fail)
  refine wp_loop_rounds 3 ?_
  rw [rounds_succ]
  go_wp2_with (fail)
  rw [rounds_succ]
  go_wp2_with (fail)
  rw [rounds_succ]
  go_wp2_with (fail)
  refine (VD w).mono ?_
  rintro e w1 ⟨v0, rfl, hv, hb⟩
  have HV := hQ hv
  have HB := hQ hb
  have X1 := hQ (zb X.out hb)
  have y0 : w1.cell? ⟨g, 0, none⟩ = some (.slice none 0 0) := za X1.out 0
  have y1 : w1.cell? ⟨g, 1, none⟩ = some (.slice (some ⟨gr, 0, none⟩) 1 1) := za X1.out 1
  clear hv hb x0 x1
  go_wp2_with (fail)
  refine wp_loop_rounds 3 ?_
  rw [rounds_succ]
  go_wp2_with (first | ((with_reducible refine yj (b := .append) (xs := #[.tmp 31, .tmp 32]) (ts := #[25, 25]) rfl ?_); refine Kd.yD k78 (w0 := w) w.heap.size rfl (.tmp 31) (.tmp 32) 25 78 (.agg #[(.int .i64 0), (.int .i64 0), (.int .i64 0)]) 24 rfl Tryz.underlying25 ve rfl (by decide) (by omega) v0 [] [] (none) 0 0 (fun _ => True) (fun _ => False) rfl rfl HV.out (Kd.ko _ _) zcp (fun _ h => h.elim) (fun _ _ => trivial) HB.out HB.out.size (by simp) ?_; intro v1 w2 ho hb hg_ hat_; have HO := hQ ho; have HB2 := hQ hb; have X2 := hQ (zb X.out hb); have z0 : w2.cell? ⟨g, 0, none⟩ = _ := za X2.out 0; have z1 : w2.cell? ⟨g, 1, none⟩ = _ := za X2.out 1; clear ho hb hg_ hat_))
  rw [rounds_succ]
  go_wp2_with (first | ((with_reducible refine yj (b := .append) (xs := #[.tmp 31, .tmp 32]) (ts := #[25, 25]) rfl ?_); refine Kd.yD k78 (w0 := w) w.heap.size rfl (.tmp 31) (.tmp 32) 25 78 (.agg #[(.int .i64 0), (.int .i64 0), (.int .i64 0)]) 24 rfl Tryz.underlying25 ve rfl (by decide) (by omega) v1 [] [⟨t, a, b⟩] (some ⟨gr, 0, none⟩) 1 1 (fun _ => True) (fun _ => False) rfl rfl HO.out (Kd.zx C1.out HB2.out) zcp (fun _ h => h.elim) (fun _ _ => trivial) HB2.out HB2.out.size (by simp) ?_; intro v2 w3 ho hb hg_ hat_; have HO3 := hQ ho; have HB3 := hQ hb; clear ho hb hg_ hat_))
  rw [rounds_succ]
  go_wp2_with (fail)
  go_wp2
  have ho : Kd.R k78 78 w3 w.heap.size (fun _ => True) v2 [⟨t, a, b⟩] := HO3.out
  obtain ⟨A, c, hv2⟩ := Kd.yc ho
  have hv2' : v2 = .slice A 1 c := hv2
  subst hv2'
  exact bodyPost_ret (v := .slice A 1 c) (by simp [results, Tryz.results137, go_sem]) rfl ⟨A, c, rfl, ho, HB3.out⟩
end Go.Proofs.YtlalbohhopmpdaaGreat.Top
