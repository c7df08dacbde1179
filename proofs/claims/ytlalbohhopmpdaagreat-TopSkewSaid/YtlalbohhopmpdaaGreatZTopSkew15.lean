/- Words and walks for TopSkew (made of the session's own texts; each part by itself). -/
import Derived.Deep.DeepCutAuto
import Derived.Deep.DeepMust
import Derived.Deep.RegionLaw
import Derived.Test.YtlalbohhopmpdaaGreatZTopSkew14
set_option maxRecDepth 100000
set_option maxHeartbeats 8000000
set_option linter.unusedVariables false
set_option linter.unusedSimpArgs false
namespace Go.Proofs.YtlalbohhopmpdaaGreat.Top
open Go.RowKit Go.Proofs.YtlalbohhopmpdaaGreat.PTop Go.YW.PrintWords Go.YW.PrintLast Go.YW.PrintMore Go.Proofs.YtlalbohhopmpdaaGreat.Num
def TL : List Nat := [133, 125, 118, 182, 210, 78, 208]
theorem ym.chT {B N : Nat} {w w1 : World} {x : Ix} {g : Sg} {T : List Nat} (h : ym w B N x g) (hc : Ch T [] B w w1) (hT : ∀ t, t ∈ TL → t ∉ T) : ym w1 B N x g :=
  ⟨h.st.ch hc (hT _ (by decide)) (hT _ (by decide)) (by simp), h.en.ch hc (hT _ (by decide)) (hT _ (by decide)) (hT _ (by decide)) (by simp), h.bk.ch hc (hT _ (by decide)) (by simp), h.ss.ch hc (hT _ (by decide)) (by simp), h.ne⟩
structure Loc (B N : Nat) (x : Ix) (g : Sg) (w0 W : World) (b1 b2 : Nat) : Prop where
  slv : ym W B N x g
  ch : Ch TS (MS x) B w0 W
  le : B ≤ w0.heap.size
  t1 : ∃ cs t f, W.heap[b1]? = some (.cells cs t f) ∧ t ∉ TL
  t2 : ∃ cs t f, W.heap[b2]? = some (.cells cs t f) ∧ t ∉ TL
  n1 : w0.heap.size ≤ b1
  n2 : w0.heap.size ≤ b2
theorem VA {W : World} {b b' j : Nat} {v : Value} (h : ∃ cs t f, W.heap[b]? = some (.cells cs t f) ∧ t ∉ TL) : ∃ cs t f, (W.setCell ⟨b', j, none⟩ v).heap[b]? = some (.cells cs t f) ∧ t ∉ TL := by
  obtain ⟨cs, t, f, h1, h2⟩ := h
  by_cases e : b = b'
  · subst e
    have h3 : ∃ cs', (W.setCell ⟨b, j, none⟩ v).heap[b]? = some (.cells cs' t f) := by
      have hlt := zF h1
      have hx := (Array.getElem?_eq_some_iff.1 h1).2
      refine ⟨cs.setIfInBounds j v, ?_⟩
      simp [World.setCell, hlt, Array.getElem_modify, hx]
    obtain ⟨cs', h3⟩ := h3
    exact ⟨cs', t, f, h3, h2⟩
  · exact ⟨cs, t, f, (Below.heap_setCell W ⟨b', j, none⟩ v b e).trans h1, h2⟩
theorem Loc.set {B N : Nat} {x : Ix} {g : Sg} {w0 W : World} {b1 b2 b j : Nat} {v : Value} (h : Loc B N x g w0 W b1 b2) (hb : b = b1 ∨ b = b2) : Loc B N x g w0 (W.setCell ⟨b, j, none⟩ v) b1 b2 := by
  have ht : ∃ cs t f, W.heap[b]? = some (.cells cs t f) ∧ t ∉ TL := hb.elim (fun e => e ▸ h.t1) (fun e => e ▸ h.t2)
  have hn : w0.heap.size ≤ b := hb.elim (fun e => e ▸ h.n1) (fun e => e ▸ h.n2)
  obtain ⟨cs, t, f, h1, h2⟩ := ht
  have hB : B ≤ b := Nat.le_trans h.le hn
  refine ⟨h.slv.chT (Ch.set (T := [t]) (M := []) h1 (by simp) hB (fun m hm => by cases hm) v) (fun q hq hm => by
    rw [List.mem_singleton] at hm
    subst hm
    exact h2 hq), ⟨h.ch.os, h.ch.tape, h.ch.output, ?_, fun i hi => ?_, h.ch.isMap, fun i hi hm ht => ?_⟩, h.le, VA h.t1, VA h.t2, h.n1, h.n2⟩
  · have := h.ch.size
    simpa [World.setCell] using this
  · exact (Below.heap_setCell W ⟨b, j, none⟩ v i (by show i ≠ b; omega)).trans (h.ch.low i hi)
  · exact (Below.heap_setCell W ⟨b, j, none⟩ v i (by show i ≠ b; omega)).trans (h.ch.block i hi hm ht)
theorem Loc.below {B N : Nat} {x : Ix} {g : Sg} {w0 W W1 : World} {b1 b2 : Nat} (h : Loc B N x g w0 W b1 b2) (hb : Below W.heap.size W W1) : Loc B N x g w0 W1 b1 b2 := by
  obtain ⟨c1, t1, f1, e1, n1⟩ := h.t1
  obtain ⟨c2, t2, f2, e2, n2⟩ := h.t2
  exact ⟨h.slv.below hb, h.ch.trans (h.slv.chb hb), h.le, ⟨c1, t1, f1, zb e1 hb, n1⟩, ⟨c2, t2, f2, zb e2 hb, n2⟩, h.n1, h.n2⟩
theorem Loc.step {B N N' : Nat} {x : Ix} {g g' : Sg} {w0 W W1 : World} {b1 b2 : Nat} (h : Loc B N x g w0 W b1 b2) (hs : ym W1 B N' x g') (hc : Ch TS (MS x) B W W1) : Loc B N' x g' w0 W1 b1 b2 := by
  obtain ⟨c1, t1, f1, e1, n1⟩ := h.t1
  obtain ⟨c2, t2, f2, e2, n2⟩ := h.t2
  have hT : ∀ t, t ∉ TL → t ∉ TS := fun t ht h => ht (by simp only [TS, TL, List.mem_cons, List.not_mem_nil, or_false] at h ⊢; rcases h with h | h | h | h | h <;> simp [h])
  exact ⟨hs, h.ch.trans hc, h.le, ⟨c1, t1, f1, hc.cell e1 (hT _ n1), n1⟩, ⟨c2, t2, f2, hc.cell e2 (hT _ n2), n2⟩, h.n1, h.n2⟩
theorem Loc.mk' {B N : Nat} {x : Ix} {g : Sg} {w0 W : World} {b1 b2 t1 t2 : Nat} {c1 c2 : Array Value} {f1 f2 : Nat × Nat} (h0 : ym w0 B N x g) (hb : Below w0.heap.size w0 W) (e1 : W.heap[b1]? = some (.cells c1 t1 f1)) (e2 : W.heap[b2]? = some (.cells c2 t2 f2)) (n1 : w0.heap.size ≤ b1) (n2 : w0.heap.size ≤ b2) (h1 : t1 ∉ TL) (h2 : t2 ∉ TL) : Loc B N x g w0 W b1 b2 :=
  ⟨h0.below hb, h0.chb hb, h0.lt, ⟨c1, t1, f1, e1, h1⟩, ⟨c2, t2, f2, e2, h2⟩, n1, n2⟩
end Go.Proofs.YtlalbohhopmpdaaGreat.Top
namespace Go.Proofs.YtlalbohhopmpdaaGreat.PTop
open Go.RowKit Go.YW.PrintWords Go.YW.PrintLast Go.YW.PrintMore
attribute [local go_sem] yU yT xE xC xe yZ xJ xK zm zu   -- for this text's walks alone
def qc.l0 : Nat → List (xz) → List Int → Int → Int → Int → Int → Option ((List (xz)))
 | 0, _, _, _, _, _, _ => none
 | k + 1, x5, x11, x12, x13, x328000, x328001 => if x13 < x12 then (if 0 ≤ x13 then (if x13 < (x11.length : Int) then (if x13 < (x5.length : Int) then (qc.l0 k (x5.set (x13 : Int).toNat (⟨(⟨x328000, wrap64 (x328001 + x13)⟩ : YW), rd x11 x13⟩ : xz)) x11 x12 (wrap64 (x13 + 1)) x328000 x328001) else (none)) else (none)) else (none)) else (some x5)
def qc.f (k : Nat) (a0_0 : Int) (a0_1 : Int) (l1 : List Int) : Option ((List (xz))) := if 0 ≤ (l1.length : Int) then (if ((l1.length : Int) : Int).toNat ≤ 11728124029610 then (qc.l0 k (List.replicate ((l1.length : Int) : Int).toNat z208) l1 (l1.length : Int) 0 a0_0 a0_1) else (none)) else (none)
theorem qc.calls (k : Nat) (a0_0 : Int) (a0_1 : Int) (A1 : Option Addr) (c1 : Nat) (l1 : List Int) (r : List (xz)) (w : World) (hr1 : Kd.C (Kd.int .u16) w A1 l1.length l1) (hc1 : l1.length ≤ c1) (h : qc.f k a0_0 a0_1 l1 = some r) :
  Calls Tryz.prog 77 #[.agg #[.int .i64 a0_0, .int .i64 a0_1], .slice A1 l1.length c1] w fun e w' => ∃ v0_ : Value, e = .returned (v0_) ∧ Kd.R qp 208 w' w.heap.size (fun _ => True) v0_ r ∧ Below w.heap.size w w' := by
 have hu158 := Tryz.underlying158
 have hu208 := Tryz.underlying208
 have HR1 := zf.mk hr1
 have HC1 := zf.mk hc1
 clear hr1 hc1
 have HB := zf.mk (Below.refl w.heap.size w)
 have H : (if 0 ≤ (l1.length : Int) then (if ((l1.length : Int) : Int).toNat ≤ 11728124029610 then (qc.l0 k (List.replicate ((l1.length : Int) : Int).toNat z208) l1 (l1.length : Int) 0 a0_0 a0_1) else (none)) else (none)) = some r := h
 clear h
 by_cases c3 : 0 ≤ (l1.length : Int)
 ·
  rw [if_pos c3] at H
  have c3b0 := eq_true c3
  have c3b1 : decide (0 ≤ (l1.length : Int)) = true := dT c3
  clear c3
  by_cases c4 : ((l1.length : Int) : Int).toNat ≤ 11728124029610
  ·
   rw [if_pos c4] at H
   have c4b0 := eq_true c4
   have c4b1 : decide (((l1.length : Int) : Int).toNat ≤ 11728124029610) = true := dT c4
   clear c4
   obtain ⟨y328, hy328⟩ : ∃ y_ : List (xz), y_ = (List.replicate ((l1.length : Int) : Int).toNat z208) := ⟨_, rfl⟩
   replace H : (qc.l0 k y328 l1 (l1.length : Int) 0 a0_0 a0_1) = some r := by first | (rw [hy328]; with_reducible exact H) | (have H2_ := (Option.bind_some _ _).symm.trans H; rw [hy328]; with_reducible exact H2_) | (have H2_ := (Option.bind_some _ _).symm.trans H; with_reducible exact H2_) | with_reducible exact H | (rw [hy328]; exact H) | exact H
   have Ny328 := zf.mk hy328
   clear hy328
   have H' := zf.mk H
   clear H
   go_enter Tryz.func77, Tryz.ntmps77
   go_wp2_with (first | ((with_reducible refine zS (N := 2) rfl ?_); refine yt ?hg (N := 2) ?hd (cs := #[.int .i64 a0_0, .int .i64 a0_1]) (t := 158) ?hr ?_; (case hd => rfl); (case hg => rfl); (case hr => first | (go_simp; done) | (go_simp; rfl)); intro gb327 hg w5 hbox hb; have BK327 := zf.mk (hbox); have GW327 := zf.mk ((by rw [hg]; exact (zq (HB.out)) : w.heap.size ≤ gb327)); have GE327 := zf.mk ((by rw [hg]; exact (zq (HB.out)) : w.heap.size ≤ gb327)); replace HB := zf.mk (zH (HB.out) hb); clear hb hbox hg) | ((with_reducible refine zS (N := 10) rfl ?_); refine Kd.Qr qp _ 208 rfl (N := 10) rfl 155 _ _ rfl (l1.length : Int) rfl rfl Tryz.underlying155 (.agg #[(.int .i64 0), (.int .i64 0), (.int .u16 0)]) 24 zb5 rfl (by decide) (by omega) z208 (ok := fun _ => True) (okp := fun _ => True) (vg _ _ _ z208 ) (fun _ hk => hk) trivial (of_decide_eq_true (by first | (with_reducible assumption) | assumption)) (Nat.le_trans (Nat.mul_le_mul_right _ (of_decide_eq_true (by first | (with_reducible assumption) | assumption) : (l1.length : Int).toNat ≤ 11728124029610)) (by omega)) (Below.refl _ _) (Nat.le_refl _) ?_; intro v329 w6 ho7 hb hg_ hnew_; clear hg_ hnew_; (first | rw [← Ny328.out] at ho7 | (simp only [Int.reduceToNat] at ho7; rw [← Ny328.out] at ho7)); have HO330 := zf.mk (Kd.zU ho7 (zq (HB.out))); replace BK327 := zf.mk (zb BK327.out hb); replace HB := zf.mk (zH (HB.out) hb); clear hb ho7))
   go_loopg [13] k (fun kq v13 w' => ∃ (x5_1 : List (xz)) (x13_1 : Int), v13 = .int .i64 x13_1 ∧ zf (qc.l0 kq x5_1 l1 (l1.length : Int) x13_1 a0_0 a0_1 = some r) ∧ zf (kq ≤ k) ∧ zf (Kd.R qp 208 w' w.heap.size (fun _ => True) v329 x5_1) ∧ zf (w'.heap[gb327]? = some (.cells #[.int .i64 a0_0, .int .i64 a0_1] 158 (0, 0))) ∧ zf (Below w.heap.size w w'))
   case atStart => exact ⟨(y328), (0), (by first | rfl | (simp; done) | (simp [*]; done)), H', ⟨Nat.le_refl _⟩, ⟨HO330.out⟩, ⟨BK327.out⟩, ⟨HB.out⟩⟩
   case round =>
    clear H'
    (try clear c3b0); (try clear c3b1); (try clear c4b0); (try clear c4b1)
    obtain ⟨x5_1, x13_1, rfl, HA, HK1, HO_5, BK327, HB⟩ := hrel
    cases gk with
    | zero => exact absurd HA.out (by simp [qc.l0])
    | succ k1 =>
     have H := HA.out
     clear HA
     simp only [qc.l0] at H
     by_cases c8 : x13_1 < (l1.length : Int)
     ·
      rw [if_pos c8] at H
      have c8b0 : decide (x13_1 < (l1.length : Int)) = true := dT c8
      clear c8
      by_cases c9 : 0 ≤ x13_1
      ·
       rw [if_pos c9] at H
       have c9b0 : decide (0 ≤ x13_1) = true := dT c9
       clear c9
       by_cases c10 : x13_1 < (l1.length : Int)
       ·
        rw [if_pos c10] at H
        have c10b0 : decide (x13_1 < (l1.length : Int)) = true := dT c10
        clear c10
        by_cases c11 : x13_1 < (x5_1.length : Int)
        ·
         rw [if_pos c11] at H
         have c11b0 : decide (x13_1 < (x5_1.length : Int)) = true := dT c11
         clear c11
         obtain ⟨y332, hy332⟩ : ∃ y_ : List (xz), y_ = (x5_1.set (x13_1 : Int).toNat (⟨(⟨a0_0, wrap64 (a0_1 + x13_1)⟩ : YW), rd l1 x13_1⟩ : xz)) := ⟨_, rfl⟩
         replace H : (qc.l0 k1 y332 l1 (l1.length : Int) (wrap64 (x13_1 + 1)) a0_0 a0_1) = some r := by first | (rw [hy332]; with_reducible exact H) | (have H2_ := (Option.bind_some _ _).symm.trans H; rw [hy332]; with_reducible exact H2_) | (have H2_ := (Option.bind_some _ _).symm.trans H; with_reducible exact H2_) | with_reducible exact H | (rw [hy332]; exact H) | exact H
         have Ny332 := zf.mk hy332
         clear hy332
         have H' := zf.mk H
         clear H
         have p331 : 0 ≤ (x13_1 : Int) := of_decide_eq_true (by first | (with_reducible assumption) | assumption)
         have q331 : x13_1 < (l1.length : Int) := of_decide_eq_true (by first | (with_reducible assumption) | assumption)
         obtain ⟨ad331, e331, hx331_0⟩ := Kd.kz HR1.out x13_1 p331 q331
         cases e331
         replace hx331_0 := (HB.out.cell (World.block_lt_of_cell? w _ hx331_0)).trans hx331_0
         replace p331 := eq_true p331
         replace q331 := eq_true q331
         obtain ⟨hcz13_0, hcz13_1⟩ := XF BK327.out
         obtain ⟨hfz13_0, hfz13_1⟩ := Va BK327.out
         have p12 : 0 ≤ (x13_1 : Int) := of_decide_eq_true (by first | (with_reducible assumption) | assumption)
         have q12 : (x13_1 : Int) < ((x5_1.length : Int) : Int) := of_decide_eq_true (by first | (with_reducible assumption) | assumption)
         obtain ⟨go12, co12, eo12, gb12, gl12, cl12, HG12⟩ := Kd.xX HO_5.out (by omega)
         (first | cases eo12 | (injection eo12 with ea_ en_ ec_; (first | subst ea_ | (injection ea_ with ea_; subst ea_)); subst ec_; clear en_))
         have GB12 := zf.mk gb12
         have GG12 := zf.mk HG12
         clear gb12 gl12 HG12
         obtain ⟨ce12, hcl12, hM12, hcc12, hfr12⟩ := Kd.Qm HO_5.out z208 (x13_1 : Int) p12 q12
         obtain rfl := Zw hM12
         have hx12_0 : wr.cell? ⟨go12, (x13_1 : Int).toNat * 3, none⟩ = some (.int .i64 ((jk x5_1 x13_1).f0.f0)) := hcc12 0 _ rfl
         have hx12_1 : wr.cell? ⟨go12, (x13_1 : Int).toNat * 3 + 1, none⟩ = some (.int .i64 ((jk x5_1 x13_1).f0.f1)) := hcc12 1 _ rfl
         have hx12_2 : wr.cell? ⟨go12, (x13_1 : Int).toNat * 3 + 2, none⟩ = some (.int .u16 ((jk x5_1 x13_1).f1)) := hcc12 2 _ rfl
         have hf12_0 : wr.frozen? ⟨go12, (x13_1 : Int).toNat * 3, none⟩ = false := hfr12 0
         have hf12_1 : wr.frozen? ⟨go12, (x13_1 : Int).toNat * 3 + 1, none⟩ = false := hfr12 1
         have hf12_2 : wr.frozen? ⟨go12, (x13_1 : Int).toNat * 3 + 2, none⟩ = false := hfr12 2
         clear hcl12 hcc12 hfr12 hM12
         replace p12 := eq_true p12
         replace q12 := eq_true q12
         have HX14 := zf.mk (show Kd.R qp 208 wr w.heap.size (fun _ => True) (.slice (some ⟨go12, 0, none⟩) x5_1.length co12) x5_1 from (HO_5.out))
         obtain ⟨ce14, hcl14, hM14, hcc14, hfr14⟩ := Kd.Qm HX14.out z208 (x13_1 : Int) (of_decide_eq_true (by first | (with_reducible assumption) | assumption)) (by have h_ : (x13_1 : Int) < ((x5_1.length : Int) : Int) := of_decide_eq_true (by first | (with_reducible assumption) | assumption); first | exact h_ | (have e_ := (Kd.zw HO_5.out).1; omega) | simpa using h_)
         obtain rfl := Zw hM14
         have HP14 := Kd.zaU HX14.out (x13_1 : Int) (of_decide_eq_true (by first | (with_reducible assumption) | assumption)) (by have h_ : (x13_1 : Int) < ((x5_1.length : Int) : Int) := of_decide_eq_true (by first | (with_reducible assumption) | assumption); first | exact h_ | (have e_ := (Kd.zw HO_5.out).1; omega) | simpa using h_) (seg := [.int .i64 a0_0, .int .i64 (wrap64 (a0_1 + x13_1)), .int .u16 (rd l1 x13_1)]) (j := 0) hcl14 hcc14 (show 3 ≤ 3 from by decide) (x' := (⟨(⟨a0_0, wrap64 (a0_1 + x13_1)⟩ : YW), rd l1 x13_1⟩ : xz)) (vg _ _ _ (⟨(⟨a0_0, wrap64 (a0_1 + x13_1)⟩ : YW), rd l1 x13_1⟩ : xz) ) (fun _ hk => hk)
         have hx14_0 := hcc14 0 _ rfl
         (try simp only [show (qp).sz = 3 from rfl, Nat.mul_one, Nat.add_zero] at hx14_0)
         have hf14_0 := hfr14 0
         (try simp only [show (qp).sz = 3 from rfl, Nat.mul_one, Nat.add_zero] at hf14_0)
         have hx14_1 := hcc14 1 _ rfl
         (try simp only [show (qp).sz = 3 from rfl, Nat.mul_one, Nat.add_zero] at hx14_1)
         have hf14_1 := hfr14 1
         (try simp only [show (qp).sz = 3 from rfl, Nat.mul_one, Nat.add_zero] at hf14_1)
         have hx14_2 := hcc14 2 _ rfl
         (try simp only [show (qp).sz = 3 from rfl, Nat.mul_one, Nat.add_zero] at hx14_2)
         have hf14_2 := hfr14 2
         (try simp only [show (qp).sz = 3 from rfl, Nat.mul_one, Nat.add_zero] at hf14_2)
         clear hcl14 hcc14 hfr14 hM14
         go_wp2_with (first | ((with_reducible refine Zk (t := 208) (p := 29) rfl ?_); refine Yd (t := 208) (p := 29) (v := ?vo_w15) (w1 := (((wr.setCell ⟨go12, (x13_1 : Int).toNat * 3, none⟩ (.int .i64 a0_0)).setCell ⟨go12, (x13_1 : Int).toNat * 3 + 1, none⟩ (.int .i64 (wrap64 (a0_1 + x13_1)))).setCell ⟨go12, (x13_1 : Int).toNat * 3 + 2, none⟩ (.int .u16 (rd l1 x13_1)))) ?hg ?ho ?hn ?hr ?_; (case ho => rfl); (case hg => rfl); (case hn => rfl); (case hr => first | (go_simp; done) | (go_simp; rfl)); intro w15 hw; have hg : wr.grownBy w15 (some go12) := (by rw [hw]; exact HP14.2); have hp_ : Kd.R qp 208 w15 w.heap.size (fun _ => True) (.slice (some ⟨go12, 0, none⟩) x5_1.length co12) y332 := (by rw [hw, Ny332.out]; exact HP14.1); clear HP14; replace BK327 := zf.mk (yG (g := gb327) (o := .cells #[.int .i64 a0_0, .int .i64 a0_1] 158 (0, 0)) (BK327.out) hg (Kd.QH HO_5.out BK327.out (by decide))); replace HO_5 := zf.mk (hp_); replace HB := zf.mk ((by rw [hw]; exact zP (zP (zP (HB.out) GB12.out) GB12.out) GB12.out : Below w.heap.size w w15)); clear hg hw hp_))
         go_roundg k1
         case measure => have := HK1.out; omega
         case rel => exact ⟨(y332), (wrap64 (x13_1 + 1)), (by first | rfl | (simp; done) | (simp [*]; done)), H', ⟨by have := HK1.out; omega⟩, ⟨HO_5.out⟩, ⟨BK327.out⟩, ⟨HB.out⟩⟩
        ·
         rw [if_neg c11] at H
         exact absurd H (by simp)
       ·
        rw [if_neg c10] at H
        exact absurd H (by simp)
      ·
       rw [if_neg c9] at H
       exact absurd H (by simp)
     ·
      rw [if_neg c8] at H
      have c8b0 : decide (x13_1 < (l1.length : Int)) = false := dF c8
      clear c8
      obtain rfl := Option.some.inj H
      go_wp2
      go_ret
      exact ⟨_, by first | rfl | (simp [zD, zC] <;> rfl) | (simp [*, zD, zC] <;> rfl), by (with_reducible repeat (first | apply Kd.xO | apply Kd.xQ | apply Kd.jQ)); exact HO_5.out, HB.out⟩
  ·
   rw [if_neg c4] at H
   exact absurd H (by simp)
 ·
  rw [if_neg c3] at H
  exact absurd H (by simp)
end Go.Proofs.YtlalbohhopmpdaaGreat.PTop
namespace Go.Proofs.YtlalbohhopmpdaaGreat.Top
open Go.RowKit Go.Proofs.YtlalbohhopmpdaaGreat.PTop Go.YW.PrintWords Go.YW.PrintLast Go.YW.PrintMore Go.Proofs.YtlalbohhopmpdaaGreat.Num
attribute [local go_sem] zm zu
theorem kX (w : World) (fn exc : Int) :
    Calls Tryz.prog 106 #[.int .i64 fn, .int .i64 exc] w fun e w' => e = .returned (zT fn exc (.slice none 0 0) 0 0) ∧ Below w.heap.size w w' := by
  have hu41 := Tryz.underlying41
  simp only [zT, zI]
  go_enter Tryz.func106, Tryz.ntmps106
  go_wp2
  refine bodyPost_ret (v := .agg #[.int .i64 fn, .int .i64 exc, .slice none 0 0, .slice none 0 0, .int .i64 0, .int .i64 0, .int .u16 0, .int .u16 0, .int .u16 0, .int .i64 0, .int .i64 0, .bool false, .int .i64 0, .slice none 0 0]) ?_ rfl ⟨rfl, ?_⟩
  · simp [results, Tryz.results106, go_sem, hu41]
  · exact (Below.refl _ _).alloc (Nat.le_refl _) _
theorem zbw : ∃ b, yj.f 9 6 = some (2, b) := ⟨_, rfl⟩
theorem zdL (t a v : Int) (h : 0 ≤ a ∧ a < 65536) : qc.f 2 t a [v] = some [⟨⟨t, a⟩, v⟩] := by
  have h0 : wrap64 (a + 0) = a := by rw [Int.add_zero]; exact zA (by omega) (by omega)
  have h1 : qc.f 2 t a [v] = some [⟨⟨t, wrap64 (a + 0)⟩, v⟩] := by kernel_rfl
  rw [h1, h0]
theorem zbB (w : World) (a v : Int) (ha : 0 ≤ a ∧ a < 256) (hv : 0 ≤ v ∧ v < 65536) :
    Calls Tryz.prog 182 #[qd a v, .int .u16 0] w fun e w' => ∃ A c, e = .returned (.slice A 1 c) ∧ Kd.R qp 208 w' w.heap.size (fun _ => True) (.slice A 1 c) [⟨⟨2, a⟩, v⟩] ∧ Below w.heap.size w w' := by
  have hu37 := Tryz.underlying37
  have B1 := hQ (show Below w.heap.size w (w.alloc (.cells (xB a v) 37)) from (Below.refl _ _).alloc (Nat.le_refl _) _)
  have X1 := hQ (zi w (.cells (xB a v) 37 (0, 0)))
  have hR := fun (w : World) => qU w a v ha hv
  have HA := hQ ha
  clear ha hv
  simp only [qd, xB] at B1 X1 hR ⊢
  go_enter Tryz.func182, Tryz.ntmps182
  go_wp2_with (fail)
  refine (hR _).mono ?_
  rintro e w2 ⟨rfl, hb⟩
  have B2 := hQ (ze B1.out B1.out.size hb)
  have X2 := hQ (zb X1.out hb)
  obtain ⟨x0, x1, x2, x3, x4, x5, x6, x7, x8, x9, x10, x11⟩ := zW X2.out
  clear hb
  go_wp2_with (fail)
  refine (zaN _).mono ?_
  rintro e w3 ⟨rfl, hd⟩
  have B3 := hQ (ze B2.out B2.out.size hd.below)
  have X3 := hQ (zb X2.out hd.below)
  clear hd x0 x1 x2 x3 x4 x5 x6 x7 x8 x9 x10 x11
  obtain ⟨x0, x1, x2, x3, x4, x5, x6, x7, x8, x9, x10, x11⟩ := zW X3.out
  have X4 := hQ (zg X3.out (.cells #[.int .u16 v] 33))
  have B4 := hQ (B3.out.alloc B3.out.size (.cells #[.int .u16 v] 33))
  have C4 := hQ (Qw (k := .u16) (e := 33) w3 [v] _ rfl (by simp))
  obtain ⟨y0, y1, y2, y3, y4, y5, y6, y7, y8, y9, y10, y11⟩ := zW X4.out
  go_wp2_with (fail)
  obtain ⟨tb, ht⟩ := zbw
  refine (yj.calls 9 6 2 tb _ ht).mono ?_
  rintro e w5 ⟨rfl, hd⟩
  have B5 := hQ (ze B4.out B4.out.size hd.below)
  have X5 := hQ (zb X4.out hd.below)
  have C5 := hQ (Kd.zz C4.out hd.below)
  clear hd x0 x1 x2 x3 x4 x5 x6 x7 x8 x9 x10 x11 y0 y1 y2 y3 y4 y5 y6 y7 y8 y9 y10 y11
  obtain ⟨x0, x1, x2, x3, x4, x5, x6, x7, x8, x9, x10, x11⟩ := zW X5.out
  go_wp2_with (fail)
  refine (qc.calls 2 2 a (some ⟨w3.heap.size, 0, none⟩) 1 [v] _ _ C5.out (Nat.le_refl _) (zdL 2 a v (by have := HA.out; omega))).mono ?_
  rintro e w6 ⟨v0, rfl, hr, hb⟩
  have B6 := hQ (ze B5.out B5.out.size hb)
  have R6 := hQ (Kd.zU hr B5.out.size)
  clear hr hb
  go_wp2
  obtain ⟨A, c, hv0⟩ := Kd.zX R6.out
  have hv0' : v0 = .slice A 1 c := hv0
  subst hv0'
  exact bodyPost_ret (v := .slice A 1 c) (by simp [results, Tryz.results182, go_sem]) rfl ⟨A, c, rfl, R6.out, B6.out⟩
theorem Je (w : World) (g0 cap : Nat) (a n : Int) (ha : 0 ≤ a ∧ a < 256) (hn : 1 ≤ n ∧ n ≤ 125) (hC : Kd.C (Kd.int .u8) w (some ⟨g0, 0, none⟩) 5 [3, 0, a, 0, n]) (hc : 5 ≤ cap) :
    Calls Tryz.prog 105 #[.slice (some ⟨g0, 0, none⟩) 5 cap] w fun e w' => e = .returned (.tuple #[jf a n, .int .i64 0]) ∧ Below w.heap.size w w' := by
  have hu37 := Tryz.underlying37
  have hu228 := Tryz.underlying228
  have hu59 := Tryz.underlying59
  obtain ⟨W2, hW2⟩ : ∃ W2, W2 = (w.alloc (.cells yL 37)).alloc (.cells (jL 3) 37) := ⟨_, rfl⟩
  have B2 := hQ (show Below w.heap.size w W2 by rw [hW2]; exact ((Below.refl _ _).alloc (Nat.le_refl _) _).alloc (by simp) _)
  have X2 := hQ (show W2.heap[w.heap.size]? = some (.cells yL 37 (0, 0)) by rw [hW2]; exact zg (zi w _) _)
  have Y2 := hQ (show W2.heap[w.heap.size + 1]? = some (.cells (jL 3) 37 (0, 0)) by rw [hW2]; have h := zi (w.alloc (.cells yL 37)) (.cells (jL 3) 37); rw [show (w.alloc (.cells yL 37)).heap.size = w.heap.size + 1 by simp] at h; exact h)
  have hlt : g0 < w.heap.size := Kd.zcA hC (by omega) (by decide)
  have l0 : (w.alloc (.cells yL 37)).cell? ⟨g0, 0, none⟩ = some (.int .u8 3) := by
    obtain ⟨ad, e1, h1⟩ := (Kd.yF hC (.cells yL 37)).2.2 (by omega)
    cases e1
    obtain ⟨cs, h2, h3, h4⟩ := h1 0 3 rfl
    exact h4 0 _ (by rw [h3]; rfl)
  have HA := hQ ha
  have HN := hQ hn
  have HC := hQ hC
  have HCC := hQ hc
  have HLT := hQ hlt
  clear ha hn hC hc hlt
  simp only [yL, jL] at hW2 l0
  go_enter Tryz.func105, Tryz.ntmps105
  go_wp2_with (fail)
  rw [← hW2]
  clear hW2 l0
  refine (QE _).mono ?_
  rintro e w3 ⟨rfl, hd⟩
  have B3 := hQ (ze B2.out B2.out.size hd.below)
  have X3 := hQ (zb X2.out hd.below)
  have Y3 := hQ (zb Y2.out hd.below)
  clear hd
  obtain ⟨y0, y1, y2, y3, y4, y5, y6, y7, y8, y9, y10, y11⟩ := zW Y3.out
  have hc1 : (cap = 1) = False := eq_false (by have := HCC.out; omega)
  obtain ⟨W4, hW4⟩ : ∃ W4, W4 = w3.alloc (.cells #[.slice (some ⟨g0, 1, none⟩) 4 (cap - 1), .bool false] 228) := ⟨_, rfl⟩
  have hb4 : Below w3.heap.size w3 W4 := by rw [hW4]; exact (Below.refl _ _).alloc (Nat.le_refl _) _
  have B4 := hQ (ze B3.out B3.out.size hb4)
  have X4 := hQ (zb X3.out hb4)
  have Y4 := hQ (zb Y3.out hb4)
  have hlt4 : g0 < w3.heap.size := Nat.lt_of_lt_of_le HLT.out B3.out.size
  have K4 := hQ (show jB W4 w3.heap.size [0, a, 0, n] (some ⟨g0, 1, none⟩) (cap - 1) from ⟨by rw [hW4]; exact zi w3 _, by
      have h := Kd.QA (m := 1) HC.out (by simp) (c := cap) HCC.out
      rw [if_neg (by have := HCC.out; omega)] at h
      exact Kd.zz (Kd.zz h B3.out) hb4, by have := HCC.out; simp; omega, fun ad e => by cases e; exact hlt4⟩)
  have z0 : (w3.alloc (.cells #[.slice (some ⟨g0, 1, none⟩) 4 (cap - 1), .bool false] 228)).cell? ⟨w.heap.size + 1, 0, none⟩ = some (.int .i64 3) := by rw [← hW4]; exact za Y4.out 0
  have hz4 : W4.heap.size = w3.heap.size + 1 := by rw [hW4]; simp
  clear hb4 hlt4
  go_wp2_with (fail)
  rw [← hW4]
  have HZ4 := hQ hz4
  clear hW4 z0 y0 y1 y2 y3 y4 y5 y6 y7 y8 y9 y10 y11 hz4
  refine (WN W4 w3.heap.size a n _ _ K4.out HA.out ⟨by have := HN.out; omega, by have := HN.out; omega⟩).mono ?_
  rintro e w5 ⟨rfl, ⟨A5, c5, h5⟩, g5⟩
  have hne : ∀ j, j < w3.heap.size → some j ≠ some w3.heap.size := fun j hj e => by injection e; omega
  have S3 := hQ (show w.heap.size + 2 ≤ w3.heap.size from by have := zF Y3.out; omega)
  have X5 := hQ (yG X4.out g5 (hne _ (by have := S3.out; omega)))
  have Y5 := hQ (yG Y4.out g5 (hne _ (by have := S3.out; omega)))
  have B5 := hQ (show Below w.heap.size w w5 from B4.out.trans ⟨g5.os, g5.tape, g5.output, g5.size, fun k hk => g5.block k (by have := S3.out; have := HZ4.out; omega) (hne k (by have := S3.out; omega))⟩)
  have K5 := hQ h5.blk
  clear h5 g5 hne
  obtain ⟨W6, hW6⟩ : ∃ W6, W6 = w5.alloc (.cells (qy a n) 37) := ⟨_, rfl⟩
  have hb6 : Below w5.heap.size w5 W6 := by rw [hW6]; exact (Below.refl _ _).alloc (Nat.le_refl _) _
  have B6 := hQ (ze B5.out B5.out.size hb6)
  have X6 := hQ (zb X5.out hb6)
  have P6 := hQ (show W6.heap[w5.heap.size]? = some (.cells (qy a n) 37 (0, 0)) by rw [hW6]; exact zi w5 _)
  have k0 : W6.cell? ⟨w3.heap.size, 0, none⟩ = some (.slice A5 0 c5) := za (zb K5.out hb6) 0
  have k1 : W6.cell? ⟨w3.heap.size, 1, none⟩ = some (.bool false) := za (zb K5.out hb6) 1
  obtain ⟨p0, p1, p2, p3, p4, p5, p6, p7, p8, p9, p10, p11⟩ := zW P6.out
  rw [hW6] at k0 k1 p0 p1 p2 p3 p4 p5 p6 p7 p8 p9 p10 p11 X6 P6 B6
  clear hb6 hW6
  simp only [qy] at k0 k1 p0 p1 p2 p3 p4 p5 p6 p7 p8 p9 p10 p11 X6 P6 B6
  simp only [jf]
  go_wp2_with (fail)
  refine (jC _ a n HA.out HN.out).mono ?_
  rintro e w7 ⟨rfl, hb⟩
  have B7 := hQ (ze B6.out B6.out.size hb)
  have X7 := hQ (zb X6.out hb)
  have P7 := hQ (zb P6.out hb)
  clear hb k0 k1 p0 p1 p2 p3 p4 p5 p6 p7 p8 p9 p10 p11
  obtain ⟨p0, p1, p2, p3, p4, p5, p6, p7, p8, p9, p10, p11⟩ := zW P7.out
  obtain ⟨x0, x1, x2, x3, x4, x5, x6, x7, x8, x9, x10, x11⟩ := zW X7.out
  have fx : ∀ i, w7.frozen? ⟨w.heap.size, i, none⟩ = false := fun i => zh X7.out i
  go_wp2
  refine bodyPost_ret (v := .tuple #[.agg (qy a n), .int .i64 0]) ?_ rfl ⟨rfl, B7.out.trans ?_⟩
  · simp [results, Tryz.results105, go_sem, hu37, x0, x1, x2, x3, x4, x5, x6, x7, x8, x9, x10, x11, qy]
  · (repeat (with_reducible first | exact Below.refl _ _ | (refine jc ?_ (by omega))))
theorem Jr (w : World) (g0 cap : Nat) (a v : Int) (ha : 0 ≤ a ∧ a < 256) (hn : 0 ≤ v ∧ v < 65536) (hC : Kd.C (Kd.int .u8) w (some ⟨g0, 0, none⟩) 5 [6, 0, a, v / 256, v % 256]) (hc : 5 ≤ cap) :
    Calls Tryz.prog 105 #[.slice (some ⟨g0, 0, none⟩) 5 cap] w fun e w' => e = .returned (.tuple #[qd a v, .int .i64 0]) ∧ Below w.heap.size w w' := by
  have hu37 := Tryz.underlying37
  have hu228 := Tryz.underlying228
  have hu59 := Tryz.underlying59
  obtain ⟨W2, hW2⟩ : ∃ W2, W2 = (w.alloc (.cells yL 37)).alloc (.cells (jL 6) 37) := ⟨_, rfl⟩
  have B2 := hQ (show Below w.heap.size w W2 by rw [hW2]; exact ((Below.refl _ _).alloc (Nat.le_refl _) _).alloc (by simp) _)
  have X2 := hQ (show W2.heap[w.heap.size]? = some (.cells yL 37 (0, 0)) by rw [hW2]; exact zg (zi w _) _)
  have Y2 := hQ (show W2.heap[w.heap.size + 1]? = some (.cells (jL 6) 37 (0, 0)) by rw [hW2]; have h := zi (w.alloc (.cells yL 37)) (.cells (jL 6) 37); rw [show (w.alloc (.cells yL 37)).heap.size = w.heap.size + 1 by simp] at h; exact h)
  have hlt : g0 < w.heap.size := Kd.zcA hC (by omega) (by decide)
  have l0 : (w.alloc (.cells yL 37)).cell? ⟨g0, 0, none⟩ = some (.int .u8 6) := by
    obtain ⟨ad, e1, h1⟩ := (Kd.yF hC (.cells yL 37)).2.2 (by omega)
    cases e1
    obtain ⟨cs, h2, h3, h4⟩ := h1 0 6 rfl
    exact h4 0 _ (by rw [h3]; rfl)
  have HA := hQ ha
  have HN := hQ hn
  have HC := hQ hC
  have HCC := hQ hc
  have HLT := hQ hlt
  clear ha hn hC hc hlt
  simp only [yL, jL] at hW2 l0
  go_enter Tryz.func105, Tryz.ntmps105
  go_wp2_with (fail)
  rw [← hW2]
  clear hW2 l0
  refine (Qz _).mono ?_
  rintro e w3 ⟨rfl, hd⟩
  have B3 := hQ (ze B2.out B2.out.size hd.below)
  have X3 := hQ (zb X2.out hd.below)
  have Y3 := hQ (zb Y2.out hd.below)
  clear hd
  obtain ⟨y0, y1, y2, y3, y4, y5, y6, y7, y8, y9, y10, y11⟩ := zW Y3.out
  have hc1 : (cap = 1) = False := eq_false (by have := HCC.out; omega)
  obtain ⟨W4, hW4⟩ : ∃ W4, W4 = w3.alloc (.cells #[.slice (some ⟨g0, 1, none⟩) 4 (cap - 1), .bool false] 228) := ⟨_, rfl⟩
  have hb4 : Below w3.heap.size w3 W4 := by rw [hW4]; exact (Below.refl _ _).alloc (Nat.le_refl _) _
  have B4 := hQ (ze B3.out B3.out.size hb4)
  have X4 := hQ (zb X3.out hb4)
  have Y4 := hQ (zb Y3.out hb4)
  have hlt4 : g0 < w3.heap.size := Nat.lt_of_lt_of_le HLT.out B3.out.size
  have K4 := hQ (show jB W4 w3.heap.size [0, a, v / 256, v % 256] (some ⟨g0, 1, none⟩) (cap - 1) from ⟨by rw [hW4]; exact zi w3 _, by
      have h := Kd.QA (m := 1) HC.out (by simp) (c := cap) HCC.out
      rw [if_neg (by have := HCC.out; omega)] at h
      exact Kd.zz (Kd.zz h B3.out) hb4, by have := HCC.out; simp; omega, fun ad e => by cases e; exact hlt4⟩)
  have z0 : (w3.alloc (.cells #[.slice (some ⟨g0, 1, none⟩) 4 (cap - 1), .bool false] 228)).cell? ⟨w.heap.size + 1, 0, none⟩ = some (.int .i64 6) := by rw [← hW4]; exact za Y4.out 0
  have hz4 : W4.heap.size = w3.heap.size + 1 := by rw [hW4]; simp
  clear hb4 hlt4
  go_wp2_with (fail)
  rw [← hW4]
  have HZ4 := hQ hz4
  clear hW4 z0 y0 y1 y2 y3 y4 y5 y6 y7 y8 y9 y10 y11 hz4
  refine (zaH W4 w3.heap.size a v _ _ K4.out HA.out HN.out).mono ?_
  rintro e w5 ⟨rfl, ⟨A5, c5, h5⟩, g5⟩
  have hne : ∀ j, j < w3.heap.size → some j ≠ some w3.heap.size := fun j hj e => by injection e; omega
  have S3 := hQ (show w.heap.size + 2 ≤ w3.heap.size from by have := zF Y3.out; omega)
  have X5 := hQ (yG X4.out g5 (hne _ (by have := S3.out; omega)))
  have Y5 := hQ (yG Y4.out g5 (hne _ (by have := S3.out; omega)))
  have B5 := hQ (show Below w.heap.size w w5 from B4.out.trans ⟨g5.os, g5.tape, g5.output, g5.size, fun k hk => g5.block k (by have := S3.out; have := HZ4.out; omega) (hne k (by have := S3.out; omega))⟩)
  have K5 := hQ h5.blk
  clear h5 g5 hne
  obtain ⟨W6, hW6⟩ : ∃ W6, W6 = w5.alloc (.cells (xB a v) 37) := ⟨_, rfl⟩
  have hb6 : Below w5.heap.size w5 W6 := by rw [hW6]; exact (Below.refl _ _).alloc (Nat.le_refl _) _
  have B6 := hQ (ze B5.out B5.out.size hb6)
  have X6 := hQ (zb X5.out hb6)
  have P6 := hQ (show W6.heap[w5.heap.size]? = some (.cells (xB a v) 37 (0, 0)) by rw [hW6]; exact zi w5 _)
  have k0 : W6.cell? ⟨w3.heap.size, 0, none⟩ = some (.slice A5 0 c5) := za (zb K5.out hb6) 0
  have k1 : W6.cell? ⟨w3.heap.size, 1, none⟩ = some (.bool false) := za (zb K5.out hb6) 1
  obtain ⟨p0, p1, p2, p3, p4, p5, p6, p7, p8, p9, p10, p11⟩ := zW P6.out
  rw [hW6] at k0 k1 p0 p1 p2 p3 p4 p5 p6 p7 p8 p9 p10 p11 X6 P6 B6
  clear hb6 hW6
  simp only [xB] at k0 k1 p0 p1 p2 p3 p4 p5 p6 p7 p8 p9 p10 p11 X6 P6 B6
  simp only [qd]
  go_wp2_with (fail)
  refine (qU _ a v HA.out HN.out).mono ?_
  rintro e w7 ⟨rfl, hb⟩
  have B7 := hQ (ze B6.out B6.out.size hb)
  have X7 := hQ (zb X6.out hb)
  have P7 := hQ (zb P6.out hb)
  clear hb k0 k1 p0 p1 p2 p3 p4 p5 p6 p7 p8 p9 p10 p11
  obtain ⟨p0, p1, p2, p3, p4, p5, p6, p7, p8, p9, p10, p11⟩ := zW P7.out
  obtain ⟨x0, x1, x2, x3, x4, x5, x6, x7, x8, x9, x10, x11⟩ := zW X7.out
  have fx : ∀ i, w7.frozen? ⟨w.heap.size, i, none⟩ = false := fun i => zh X7.out i
  go_wp2
  refine bodyPost_ret (v := .tuple #[.agg (xB a v), .int .i64 0]) ?_ rfl ⟨rfl, B7.out.trans ?_⟩
  · simp [results, Tryz.results105, go_sem, hu37, x0, x1, x2, x3, x4, x5, x6, x7, x8, x9, x10, x11, xB]
  · (repeat (with_reducible first | exact Below.refl _ _ | (refine jc ?_ (by omega))))
theorem Vf (w : World) (B N N' : Nat) (x : Ix) (g g' : Sg) (h : ym w B N x g) (hN : N < maxLen) (m gr o : Value) (hcfg : qF w m gr) (k : Int) (hk : (Lit.int .i64 k).wf = true) (a v exc at_ rv : Int) (ha : 0 ≤ a ∧ a < 256) (hv : 0 ≤ v ∧ v < 65536) (hDo : ∀ w1 : World, ym w1 B (N + 1) x g → qF w1 m gr → Calls Tryz.prog 107 #[.pointer (some ⟨x.ss, 0, none⟩), .agg (xA m gr o), .int .i64 k, .agg #[.int .i64 6, .int .i64 a, .int .i64 0, .int .u16 v, .int .u16 0, .int .u16 0, .slice none 0 0, .slice none 0 0, .int .i64 0, .int .i64 0, .int .i64 0, .int .i64 0]] w1 fun e w' => e = .returned (zT 6 exc (.slice none 0 0) at_ rv) ∧ ym w' B N' x g' ∧ Ch TS (MS x) B w1 w') (bl : List Int) (nb : Nat) (hB : ∀ w1 : World, Calls Tryz.prog 108 #[zT 6 exc (.slice none 0 0) at_ rv] w1 fun e w' => ∃ A c, e = .returned (.tuple #[.slice A nb c, .int .i64 0]) ∧ nb ≤ c ∧ Kd.F (Kd.int .u8) w' (fun k => w1.heap.size ≤ k) A nb bl ∧ Below w1.heap.size w1 w') (g0 cap B0 : Nat) (hP : Kd.R (Kd.int .u8) 5 w B0 (fun _ => True) (.slice (some ⟨g0, 0, none⟩) 5 cap) [6, 0, a, v / 256, v % 256]) :
    Calls Tryz.prog 64 #[.pointer (some ⟨x.ss, 0, none⟩), .agg (xA m gr o), .int .i64 k, .slice (some ⟨g0, 0, none⟩) 5 cap] w fun e w' => ∃ A c, e = .returned (.slice A nb c) ∧ nb ≤ c ∧ Kd.F (Kd.int .u8) w' (fun k => w.heap.size ≤ k) A nb bl ∧ ym w' B N' x g' ∧ Ch TS (MS x) B w w' := by
  have hu41 := Tryz.underlying41
  have hu37 := Tryz.underlying37
  have hu30 := Tryz.underlying30
  have B1 := hQ (show Below w.heap.size w (w.alloc (.cells (xA m gr o) 30)) from (Below.refl _ _).alloc (Nat.le_refl _) _)
  have K1 := hQ (zi w (.cells (xA m gr o) 30))
  have F1 := hQ (hcfg.below B1.out)
  have P1 := hQ (Kd.zy hP B1.out)
  have H := hQ h
  have HA := hQ ha
  have HV := hQ hv
  have HD := hQ hDo
  have hFail := kX
  have HB := hQ hB
  clear ha hv hB
  simp only [zT, zI] at HD hFail HB
  clear h hcfg hP hDo
  simp only [xA] at B1 K1 F1 P1 HD ⊢
  go_enter Tryz.func64, Tryz.ntmps64
  go_wp2_with (fail)
  refine (XQ _ B N x g (H.out.below B1.out) hN k hk).mono ?_
  rintro e w2 ⟨rfl, hs, hc⟩
  have L2 := hQ ((Loc.mk' H.out B1.out K1.out K1.out (by omega) (by omega) (by decide) (by decide)).step hs hc)
  have K2 := hQ (hc.cell K1.out (by decide))
  have F2 := hQ (F1.out.ch hc)
  have P2 := hQ (hc.R P1.out (by decide))
  clear hs hc
  go_wp2_with (fail)
  refine (Jr w2 g0 cap a v HA.out HV.out (Kd.zw P2.out).2.2 (Kd.zw P2.out).2.1).mono ?_
  rintro e w3 ⟨rfl, hb⟩
  have L3 := hQ (L2.out.below hb)
  have K3 := hQ (zb K2.out hb)
  have F3 := hQ (F2.out.below hb)
  clear hb
  simp only [qd, jf] at *
  have X4 := hQ (zi w3 (.cells #[.int .i64 6, .int .i64 a, .int .i64 0, .int .u16 v, .int .u16 0, .int .u16 0, .slice none 0 0, .slice none 0 0, .int .i64 0, .int .i64 0, .int .i64 0, .int .i64 0] 37))
  have hb4 : Below w3.heap.size w3 (w3.alloc (.cells #[.int .i64 6, .int .i64 a, .int .i64 0, .int .u16 v, .int .u16 0, .int .u16 0, .slice none 0 0, .slice none 0 0, .int .i64 0, .int .i64 0, .int .i64 0, .int .i64 0] 37)) := (Below.refl _ _).alloc (Nat.le_refl _) _
  have L4 := hQ (L3.out.below hb4)
  have K4 := hQ (zb K3.out hb4)
  have F4 := hQ (F3.out.below hb4)
  obtain ⟨x0, x1, x2, x3, x4, x5, x6, x7, x8, x9, x10, x11⟩ := zW X4.out
  clear hb4
  go_wp2_with (fail)
  refine (hFail _ 6 0).mono ?_
  rintro e w5 ⟨rfl, hb⟩
  have L5 := hQ (L4.out.below hb)
  have K5 := hQ (zb K4.out hb)
  have X5 := hQ (zb X4.out hb)
  have F5 := hQ (F4.out.below hb)
  clear hb x0 x1 x2 x3 x4 x5 x6 x7 x8 x9 x10 x11
  have Z6 := hQ (zi w5 (.cells #[.int .i64 6, .int .i64 0, .slice none 0 0, .slice none 0 0, .int .i64 0, .int .i64 0, .int .u16 0, .int .u16 0, .int .u16 0, .int .i64 0, .int .i64 0, .bool false, .int .i64 0, .slice none 0 0] 41))
  have hb6 : Below w5.heap.size w5 (w5.alloc (.cells #[.int .i64 6, .int .i64 0, .slice none 0 0, .slice none 0 0, .int .i64 0, .int .i64 0, .int .u16 0, .int .u16 0, .int .u16 0, .int .i64 0, .int .i64 0, .bool false, .int .i64 0, .slice none 0 0] 41)) := (Below.refl _ _).alloc (Nat.le_refl _) _
  have L6 := hQ (L5.out.below hb6)
  have K6 := hQ (zb K5.out hb6)
  have X6 := hQ (zb X5.out hb6)
  have F6 := hQ (F5.out.below hb6)
  clear hb6
  obtain ⟨x0, x1, x2, x3, x4, x5, x6, x7, x8, x9, x10, x11⟩ := zW X6.out
  obtain ⟨k0, k1, k2, k3, k4, k5, k6, k7, k8, k9, k10, k11, k12⟩ := YV K6.out
  go_wp2_with (fail)
  refine (HD.out _ L6.out.slv F6.out).mono ?_
  rintro e w7 ⟨rfl, hs, hc⟩
  have L7 := hQ (((⟨L6.out.slv, L6.out.ch, L6.out.le, ⟨_, _, _, Z6.out, by decide⟩, ⟨_, _, _, Z6.out, by decide⟩, Nat.le_trans L5.out.ch.size (Nat.le_refl _), Nat.le_trans L5.out.ch.size (Nat.le_refl _)⟩ : Loc B (N + 1) x g w _ w5.heap.size w5.heap.size)).step hs hc)
  have Z7 := hQ (hc.cell Z6.out (by decide))
  have S5 := hQ L5.out.ch.size
  clear hs hc x0 x1 x2 x3 x4 x5 x6 x7 x8 x9 x10 x11 k0 k1 k2 k3 k4 k5 k6 k7 k8 k9 k10 k11 k12
  obtain ⟨y0, y1, y2, y3, y4, y5, y6, y7, y8, y9, y10, y11, y12, y13⟩ := yn Z7.out
  have fy : ∀ i, w7.frozen? ⟨w5.heap.size, i, none⟩ = false := fun i => zh Z7.out i
  go_wp2_with (fail)
  refine (HB.out _).mono ?_
  rintro e w9 ⟨A9, c9, rfl, hc9, hF9, hb⟩
  have L9 : Loc B N' x g' w w9 w5.heap.size w5.heap.size := by
    refine Loc.below ?_ hb
    repeat (with_reducible first | exact L7.out | (refine Loc.set ?_ (Or.inl rfl)))
  have F9 : Kd.F (Kd.int .u8) w9 (fun k => w.heap.size ≤ k) A9 nb bl := Kd.qx hF9 (fun k hk => by have h7 := L7.out.ch.size; simp [World.setCell] at hk; omega)
  clear hb hF9
  go_wp2
  exact bodyPost_ret (v := .slice A9 nb c9) (by simp [results, Tryz.results64, go_sem]) rfl ⟨A9, c9, rfl, hc9, F9, L9.slv, L9.ch⟩
theorem Vg (w : World) (B N N' : Nat) (x : Ix) (g g' : Sg) (h : ym w B N x g) (hN : N < maxLen) (m gr o : Value) (hcfg : qF w m gr) (k : Int) (hk : (Lit.int .i64 k).wf = true) (a : Int) (n : Nat) (l : List Int) (hl : l.length = n) (ha : 0 ≤ a ∧ a < 256) (hn : 1 ≤ n ∧ n ≤ 16) (hDo : ∀ w1 : World, ym w1 B (N + 1) x g → qF w1 m gr → Calls Tryz.prog 107 #[.pointer (some ⟨x.ss, 0, none⟩), .agg (xA m gr o), .int .i64 k, .agg #[.int .i64 3, .int .i64 a, .int .i64 (n : Int), .int .u16 0, .int .u16 0, .int .u16 0, .slice none 0 0, .slice none 0 0, .int .i64 0, .int .i64 0, .int .i64 0, .int .i64 0]] w1 fun e w' => ∃ A c, e = .returned (zT 3 0 (.slice A n c) 0 0) ∧ n ≤ c ∧ Kd.F (Kd.int .u16) w' (fun k => w1.heap.size ≤ k) A n l ∧ ym w' B N' x g' ∧ Ch TS (MS x) B w1 w')  (g0 cap B0 : Nat) (hP : Kd.R (Kd.int .u8) 5 w B0 (fun _ => True) (.slice (some ⟨g0, 0, none⟩) 5 cap) [3, 0, a, 0, (n : Int)]) :
    Calls Tryz.prog 64 #[.pointer (some ⟨x.ss, 0, none⟩), .agg (xA m gr o), .int .i64 k, .slice (some ⟨g0, 0, none⟩) 5 cap] w fun e w' => ∃ A c, e = .returned (.slice A (2 + 2 * n) c) ∧ (2 + 2 * n) ≤ c ∧ Kd.F (Kd.int .u8) w' (fun k => w.heap.size ≤ k) A (2 + 2 * n) (3 :: 2 * (n : Int) :: xU l) ∧ ym w' B N' x g' ∧ Ch TS (MS x) B w w' := by
  have hu41 := Tryz.underlying41
  have hu37 := Tryz.underlying37
  have hu30 := Tryz.underlying30
  have B1 := hQ (show Below w.heap.size w (w.alloc (.cells (xA m gr o) 30)) from (Below.refl _ _).alloc (Nat.le_refl _) _)
  have K1 := hQ (zi w (.cells (xA m gr o) 30))
  have F1 := hQ (hcfg.below B1.out)
  have P1 := hQ (Kd.zy hP B1.out)
  have H := hQ h
  have HA := hQ ha
  have HN := hQ hn
  have HL := hQ hl
  have HD := hQ hDo
  have hFail := kX
  have hby := fun (w : World) (A2 : Option Addr) (c2 : Nat) => QL w l n hl hn none 0 A2 c2 none 0
  clear ha hn hl
  simp only [zT, zI] at HD hFail hby
  clear h hcfg hP hDo
  simp only [xA] at B1 K1 F1 P1 HD ⊢
  go_enter Tryz.func64, Tryz.ntmps64
  go_wp2_with (fail)
  refine (XQ _ B N x g (H.out.below B1.out) hN k hk).mono ?_
  rintro e w2 ⟨rfl, hs, hc⟩
  have L2 := hQ ((Loc.mk' H.out B1.out K1.out K1.out (by omega) (by omega) (by decide) (by decide)).step hs hc)
  have K2 := hQ (hc.cell K1.out (by decide))
  have F2 := hQ (F1.out.ch hc)
  have P2 := hQ (hc.R P1.out (by decide))
  clear hs hc
  go_wp2_with (fail)
  refine (Je w2 g0 cap a n HA.out (by have := HN.out; omega) (Kd.zw P2.out).2.2 (Kd.zw P2.out).2.1).mono ?_
  rintro e w3 ⟨rfl, hb⟩
  have L3 := hQ (L2.out.below hb)
  have K3 := hQ (zb K2.out hb)
  have F3 := hQ (F2.out.below hb)
  clear hb
  simp only [qd, jf] at *
  have X4 := hQ (zi w3 (.cells #[.int .i64 3, .int .i64 a, .int .i64 (n : Int), .int .u16 0, .int .u16 0, .int .u16 0, .slice none 0 0, .slice none 0 0, .int .i64 0, .int .i64 0, .int .i64 0, .int .i64 0] 37))
  have hb4 : Below w3.heap.size w3 (w3.alloc (.cells #[.int .i64 3, .int .i64 a, .int .i64 (n : Int), .int .u16 0, .int .u16 0, .int .u16 0, .slice none 0 0, .slice none 0 0, .int .i64 0, .int .i64 0, .int .i64 0, .int .i64 0] 37)) := (Below.refl _ _).alloc (Nat.le_refl _) _
  have L4 := hQ (L3.out.below hb4)
  have K4 := hQ (zb K3.out hb4)
  have F4 := hQ (F3.out.below hb4)
  obtain ⟨x0, x1, x2, x3, x4, x5, x6, x7, x8, x9, x10, x11⟩ := zW X4.out
  clear hb4
  go_wp2_with (fail)
  refine (hFail _ 3 0).mono ?_
  rintro e w5 ⟨rfl, hb⟩
  have L5 := hQ (L4.out.below hb)
  have K5 := hQ (zb K4.out hb)
  have X5 := hQ (zb X4.out hb)
  have F5 := hQ (F4.out.below hb)
  clear hb x0 x1 x2 x3 x4 x5 x6 x7 x8 x9 x10 x11
  have Z6 := hQ (zi w5 (.cells #[.int .i64 3, .int .i64 0, .slice none 0 0, .slice none 0 0, .int .i64 0, .int .i64 0, .int .u16 0, .int .u16 0, .int .u16 0, .int .i64 0, .int .i64 0, .bool false, .int .i64 0, .slice none 0 0] 41))
  have hb6 : Below w5.heap.size w5 (w5.alloc (.cells #[.int .i64 3, .int .i64 0, .slice none 0 0, .slice none 0 0, .int .i64 0, .int .i64 0, .int .u16 0, .int .u16 0, .int .u16 0, .int .i64 0, .int .i64 0, .bool false, .int .i64 0, .slice none 0 0] 41)) := (Below.refl _ _).alloc (Nat.le_refl _) _
  have L6 := hQ (L5.out.below hb6)
  have K6 := hQ (zb K5.out hb6)
  have X6 := hQ (zb X5.out hb6)
  have F6 := hQ (F5.out.below hb6)
  clear hb6
  obtain ⟨x0, x1, x2, x3, x4, x5, x6, x7, x8, x9, x10, x11⟩ := zW X6.out
  obtain ⟨k0, k1, k2, k3, k4, k5, k6, k7, k8, k9, k10, k11, k12⟩ := YV K6.out
  go_wp2_with (fail)
  refine (HD.out _ L6.out.slv F6.out).mono ?_
  rintro e w7 ⟨A, c, rfl, hcc, hF, hs, hc⟩
  have L7 := hQ (((⟨L6.out.slv, L6.out.ch, L6.out.le, ⟨_, _, _, Z6.out, by decide⟩, ⟨_, _, _, Z6.out, by decide⟩, Nat.le_trans L5.out.ch.size (Nat.le_refl _), Nat.le_trans L5.out.ch.size (Nat.le_refl _)⟩ : Loc B (N + 1) x g w _ w5.heap.size w5.heap.size)).step hs hc)
  have Z7 := hQ (hc.cell Z6.out (by decide))
  have Q7 := hQ hF
  have S7 := hQ (zF Z6.out)
  have HCC := hQ hcc
  clear hF hcc
  have S5 := hQ L5.out.ch.size
  clear hs hc x0 x1 x2 x3 x4 x5 x6 x7 x8 x9 x10 x11 k0 k1 k2 k3 k4 k5 k6 k7 k8 k9 k10 k11 k12
  obtain ⟨y0, y1, y2, y3, y4, y5, y6, y7, y8, y9, y10, y11, y12, y13⟩ := yn Z7.out
  have fy : ∀ i, w7.frozen? ⟨w5.heap.size, i, none⟩ = false := fun i => zh Z7.out i
  go_wp2_with (fail)
  have hq : ∀ W : World, Kd.F (Kd.int .u16) W (fun k => (w5.alloc (.cells #[.int .i64 3, .int .i64 0, .slice none 0 0, .slice none 0 0, .int .i64 0, .int .i64 0, .int .u16 0, .int .u16 0, .int .u16 0, .int .i64 0, .int .i64 0, .bool false, .int .i64 0, .slice none 0 0] 41)).heap.size ≤ k) A n l → Kd.C (Kd.int .u16) W A n l := fun W hF => Kd.XK hF
  refine (hby _ A c (hq _ ?_) HCC.out).mono ?_
  · have s7 := S7.out
    repeat (with_reducible first | exact Q7.out | (refine jR ?_ s7))
  rintro e w9 ⟨A9, c9, rfl, hc9, hF9, hb⟩
  have L9 : Loc B N' x g' w w9 w5.heap.size w5.heap.size := by
    refine Loc.below ?_ hb
    repeat (with_reducible first | exact L7.out | (refine Loc.set ?_ (Or.inl rfl)))
  have F9 : Kd.F (Kd.int .u8) w9 (fun k => w.heap.size ≤ k) A9 (2 + 2 * n) (3 :: 2 * (n : Int) :: xU l) := Kd.qx hF9 (fun k hk => by have h7 := L7.out.ch.size; simp [World.setCell] at hk; omega)
  clear hb hF9
  go_wp2
  exact bodyPost_ret (v := .slice A9 (2 + 2 * n) c9) (by simp [results, Tryz.results64, go_sem]) rfl ⟨A9, c9, rfl, hc9, F9, L9.slv, L9.ch⟩
end Go.Proofs.YtlalbohhopmpdaaGreat.Top
