/- Words and walks for TopSkew (made of the session's own texts; each part by itself). -/
import Derived.Deep.DeepCutAuto
import Derived.Deep.DeepMust
import Derived.Deep.RegionLaw
import Derived.RegionTactic
import Derived.ChangeAlike
import Derived.Outline
import Derived.Lib.Hide
import Derived.WalkSpells
import Derived.Test.YtlalbohhopmpdaaGreatZTopSkew22
import Derived.Test.YtlalbohhopmpdaaGreatZTopSkew24
import Derived.Test.YtlalbohhopmpdaaGreatZTopSkew25
set_option maxRecDepth 100000
set_option maxHeartbeats 8000000
set_option linter.unusedVariables false
set_option linter.unusedSimpArgs false
namespace Go.Proofs.YtlalbohhopmpdaaGreat.Top
open Go.RowKit Go.Proofs.YtlalbohhopmpdaaGreat.PTop Go.YW.PrintWords Go.YW.PrintLast Go.YW.PrintMore Go.Proofs.YtlalbohhopmpdaaGreat.Num
open Go.Proofs.YtlalbohhopmpdaaGreat.LemHeadTop Go.Proofs.YtlalbohhopmpdaaGreat.LemAduTop
def zR (w : World) (B N' : Nat) (x : Ix) (g' : Sg) (tb gb dk n : Nat) (L : Nat → Nat → Nat) (k : Int) (c : Nat) (fn at_ nn v exc : Int) (lw : List Int) (ra rv : Int) : Prop :=
  Calls Tryz.prog 10 #[.pointer (some ⟨tb, 0, none⟩), .int .i64 (c : Int), .agg #[.int .i64 fn, .int .i64 at_, .int .i64 nn, .int .u16 v, .int .u16 0, .int .u16 0, .slice none 0 0, .slice none 0 0, .int .i64 0, .int .i64 0, .int .i64 0, .int .i64 0]] w fun e w' =>
    ∃ A q, e = .returned (.tuple #[zT fn exc (.slice A lw.length q) ra rv, .bool true]) ∧ Kd.R (Kd.int .u16) 33 w' w.heap.size (fun _ => True) (.slice A lw.length q) lw ∧ xk w' B N' x g' tb gb dk n L (k + 1) ∧ Ch TT (MS x) B w w'
section
variable {w : World} {B N : Nat} {x : Ix} {g : Sg} {tb gb dk n : Nat} {L : Nat → Nat → Nat} {k : Int}
theorem YF {c : Nat} (hc : c < 3) : (Lit.int .i64 (c : Int)).wf = true := by
  obtain rfl | rfl | rfl : c = 0 ∨ c = 1 ∨ c = 2 := by omega
  all_goals rfl
theorem lim (h : N ≤ 1000000) : N + 3000 < maxLen := by unfold maxLen; omega
theorem Zr (h : xk w B N x g tb gb dk n L k) (hk : 0 ≤ k ∧ k < 1000) (hN : N ≤ 1000000) (c : Nat) (hc : c < n) (v : Int) (hv : 0 ≤ v ∧ v < 65536) (N' : Nat) (g' : Sg) (exc ra rv : Int) (bl : List Int) (hbl : bl.length ≤ 100) (hbl1 : 1 ≤ bl.length) (hb8 : B8 bl)
    (hC : ∀ w1 : World, ym w1 B (N + 1) x g → Calls Tryz.prog 142 #[.pointer (some ⟨x.ss, 0, none⟩), .int .i64 100, .int .i64 (c : Int), qd 100 v] w1 fun e w' => e = .returned (zT 6 exc (.slice none 0 0) ra rv) ∧ ym w' B N' x g' ∧ Ch TS (MS x) B w1 w')
    (hB : ∀ w1 : World, Calls Tryz.prog 108 #[zT 6 exc (.slice none 0 0) ra rv] w1 fun e w' => ∃ A c, e = .returned (.tuple #[.slice A bl.length c, .int .i64 0]) ∧ bl.length ≤ c ∧ Kd.F (Kd.int .u8) w' (fun k => w1.heap.size ≤ k) A bl.length bl ∧ Below w1.heap.size w1 w')
    (hP : Zd 6 exc [] ra rv 0 bl) : zR w B N' x g' tb gb dk n L k c 6 100 0 v exc [] ra rv := by
  have hn3 := h.gt.desk.le
  have hwf := YF (c := c) (by omega)
  have hl := lim hN
  refine vE w B N N' x g g' tb gb dk n L k h hk c hc 6 100 0 v [6, 0, 100, v / 256, v % 256] bl rfl (zaR 100 v (by omega) hv) (Vx 100 v (k + 1) c (by omega) hv (by omega) (by omega)) ?_ (by unfold Ok; omega) hb8 exc [] ra rv hP
  intro w1 m gr o g0 cap B0 hs hcf hR
  exact Vf w1 B N N' x g g' hs (by omega) m gr o hcf c hwf 100 v exc ra rv (by omega) hv (fun w2 hs2 hcf2 => zdI w2 B (N + 1) N' x g g' hs2 m gr o hcf2 c hwf v exc ra rv hv hC) bl bl.length hB g0 cap B0 hR
theorem Xe (a v : Int) (ha : 0 ≤ a ∧ a < 256) (hv : 0 ≤ v ∧ v < 65536) (w1 : World) : Calls Tryz.prog 108 #[zT 6 0 (.slice none 0 0) a v] w1 fun e w' => ∃ A c, e = .returned (.tuple #[.slice A ([6, 0, a, v / 256, v % 256] : List Int).length c, .int .i64 0]) ∧ ([6, 0, a, v / 256, v % 256] : List Int).length ≤ c ∧ Kd.F (Kd.int .u8) w' (fun k => w1.heap.size ≤ k) A ([6, 0, a, v / 256, v % 256] : List Int).length [6, 0, a, v / 256, v % 256] ∧ Below w1.heap.size w1 w' :=
  Qf w1 a v ha hv none 0 none 0 none 0
theorem zas (w1 : World) : Calls Tryz.prog 108 #[zT 6 4 (.slice none 0 0) 0 0] w1 fun e w' => ∃ A c, e = .returned (.tuple #[.slice A ([134, 4] : List Int).length c, .int .i64 0]) ∧ ([134, 4] : List Int).length ≤ c ∧ Kd.F (Kd.int .u8) w' (fun k => w1.heap.size ≤ k) A ([134, 4] : List Int).length [134, 4] ∧ Below w1.heap.size w1 w' :=
  QB w1 none 0 none 0 none 0
theorem Zh (h : xk w B N x g tb gb dk n L k) (hk : 0 ≤ k ∧ k < 1000) (hN : N ≤ 1000000) (c : Nat) (hc : c < n) (hno : g.vs c = none) (hst : ((g.ses c).getD (0, 0, 0)).1 ≠ 1) (hm : (g.nv : Int) < x.most) :
    zR w B (N + 4) x ((g.put c ⟨g.s.last, [], []⟩).turn c (1, 0, g.s.last)) tb gb dk n L k c 6 100 0 1 0 [] 100 1 := by
  have hwf := YF (c := c) (by have := h.gt.desk.le; omega)
  have hl := lim hN
  refine Zr h hk hN c hc 1 (by omega) (N + 4) _ 0 100 1 [6, 0, 100, 1 / 256, 1 % 256] (by decide) (by decide) (zaR 100 1 (by omega) (by omega)) (fun w1 hs => ?_) (Xe 100 1 (by omega) (by omega)) (YU 100 1 0 (.inr rfl) (by omega) (by omega))
  exact Wh w1 B (N + 1) (N + 4) x g _ hs c (fun w2 hs2 => Kt w2 B (N + 1) x g hs2 (by omega) c hwf hno hst hm)
theorem jY (h : xk w B N x g tb gb dk n L k) (hk : 0 ≤ k ∧ k < 1000) (hN : N ≤ 1000000) (c : Nat) (hc : c < n) (hs0 : ky g.s.ch) (hst : ((g.ses c).getD (0, 0, 0)).1 = 1) (q : Int) (rs : List S78) (y : xz) (hv0 : g.vs c = some ⟨q, rs, [y]⟩) (hr : vK rs) (hy : qJ y) (hlast : 0 ≤ g.s.last ∧ g.s.last < 1000000) (hfull : 0 ≤ g.s.n ∧ g.s.n + 1 ≤ g.s.most ∧ g.s.most ≤ 1000000) (hf : xn g.s.ch rs q = true) :
    zR w B (N + 3) x (g.scommit c ⟨q, rs, [y]⟩) tb gb dk n L k c 6 100 0 2 0 [] 100 2 := by
  have hwf := YF (c := c) (by have := h.gt.desk.le; omega)
  have hl := lim hN
  refine Zr h hk hN c hc 2 (by omega) (N + 3) _ 0 100 2 [6, 0, 100, 2 / 256, 2 % 256] (by decide) (by decide) (zaR 100 2 (by omega) (by omega)) (fun w1 hs => ?_) (Xe 100 2 (by omega) (by omega)) (YU 100 2 0 (.inr rfl) (by omega) (by omega))
  refine VK w1 B (N + 1) (N + 3) x g _ hs c (fun w2 hs2 => ?_)
  have hC := Yk w2 B (N + 1) x g hs2 (by omega) hs0 c hwf hst q rs y hv0 hr hy hlast hfull
  rw [hf] at hC
  exact hC
theorem YQ (h : xk w B N x g tb gb dk n L k) (hk : 0 ≤ k ∧ k < 1000) (hN : N ≤ 1000000) (c : Nat) (hc : c < n) (hs0 : ky g.s.ch) (hst : ((g.ses c).getD (0, 0, 0)).1 = 1) (q : Int) (rs : List S78) (y : xz) (hv0 : g.vs c = some ⟨q, rs, [y]⟩) (hr : vK rs) (hy : qJ y) (hlast : 0 ≤ g.s.last ∧ g.s.last < 1000000) (hfull : 0 ≤ g.s.n ∧ g.s.n + 1 ≤ g.s.most ∧ g.s.most ≤ 1000000) (hf : xn g.s.ch rs q = false) :
    zR w B (N + 3) x (g.scommit c ⟨q, rs, [y]⟩) tb gb dk n L k c 6 100 0 2 4 [] 0 0 := by
  have hwf := YF (c := c) (by have := h.gt.desk.le; omega)
  have hl := lim hN
  refine Zr h hk hN c hc 2 (by omega) (N + 3) _ 4 0 0 [134, 4] (by decide) (by decide) zdD (fun w1 hs => ?_) zas (WU 0)
  refine We w1 B (N + 1) (N + 3) x g _ hs c (fun w2 hs2 => ?_)
  have hC := Yk w2 B (N + 1) x g hs2 (by omega) hs0 c hwf hst q rs y hv0 hr hy hlast hfull
  rw [hf] at hC
  exact hC
theorem Zn (h : xk w B N x g tb gb dk n L k) (hk : 0 ≤ k ∧ k < 1000) (hN : N ≤ 1000000) (c : Nat) (hc : c < n) (a v : Int) (ha : okA a) (hv : 0 ≤ v ∧ v < 65536) (hst : ((g.ses c).getD (0, 0, 0)).1 = 1) (q : Int) (rs : List S78) (hrs : rs.length ≤ 1000) (hv0 : g.vs c = some ⟨q, rs, []⟩) (hwr : x.writes = 2000) :
    zR w B (N + 2) x (g.put c ⟨q, rs, [⟨⟨2, a⟩, v⟩]⟩) tb gb dk n L k c 6 a 0 v 0 [] a v := by
  have hn3 := h.gt.desk.le
  have hwf := YF (c := c) (by omega)
  have hl := lim hN
  have hla := kv ha
  have hy : qJ (⟨⟨2, a⟩, v⟩ : xz) := ⟨rfl, hla.1, by show a < 65536; omega⟩
  refine vE w B N (N + 2) x g _ tb gb dk n L k h hk c hc 6 a 0 v [6, 0, a, v / 256, v % 256] [6, 0, a, v / 256, v % 256] rfl (zaR a v hla hv) (Vx a v (k + 1) c hla hv (by omega) (by omega)) ?_ (by unfold Ok; simp; omega) (zaR a v hla hv) 0 [] a v (YU a v 0 (.inl ha) hla hv)
  intro w1 m gr o g0 cap B0 hs hcf hR
  refine Vf w1 B N (N + 2) x g _ hs (by omega) m gr o hcf c hwf a v 0 a v hla hv (fun w2 hs2 hcf2 => ?_) [6, 0, a, v / 256, v % 256] 5 (Xe a v hla hv) g0 cap B0 hR
  rcases hses : (g.ses c).getD (0, 0, 0) with ⟨s1, s2, s3⟩
  have h1 : s1 = 1 := by rw [hses] at hst; exact hst
  exact zdF w2 B (N + 1) (N + 2) x g _ hs2 m gr o hcf2 c hwf s1 s2 s3 hses (by omega) a v ha hv (fun w3 A c' B3 hs3 hl3 => Ym w3 B (N + 1) x g hs3 (by omega) c hwf hst q rs hrs hv0 hwr A c' B3 _ hy hl3)
theorem KZ (a y : Int) (N' : Nat) (g' : Sg) (c : Nat) (hc : c < 3) (hN : N ≤ 1000000) (ha : okA a) (s1 s2 s3 : Int) (hses : (g.ses c).getD (0, 0, 0) = (s1, s2, s3)) (hs2 : s1 ≠ 2) (hR : WI B (N + 1) N' x g g' c a (a + 1) 1 [y]) : jT B N N' x g g' c [3, 0, a, 0, 1] (3 :: 2 * (([y] : List Int).length : Int) :: xU [y]) := by
  have hl := lim hN
  intro w1 m gr o g0 cap B0 hs hcf hP
  exact Vg w1 B N N' x g g' hs (by omega) m gr o hcf c (YF hc) a 1 [y] rfl (kv ha) (by omega) (fun w2 hs2' hcf2 => zdN w2 B (N + 1) N' x g g' hs2' m gr o hcf2 c (YF hc) s1 s2 s3 hses hs2 a 1 [y] rfl (kv ha) (by omega) (YT a ha) hR) g0 cap B0 hP
theorem Xu (h : xk w B N x g tb gb dk n L k) (hk : 0 ≤ k ∧ k < 1000) (hN : N ≤ 1000000) (c : Nat) (hc : c < n) (a y : Int) (ha : okA a) (hy : 0 ≤ y ∧ y < 65536) (hs0 : ky g.s.ch) (hst : ((g.ses c).getD (0, 0, 0)).1 = 1) (q : Int) (hv0 : g.vs c = some ⟨q, [], []⟩) (hsp : x.spans = 500) (hx : jb g.s.ch 2 a q 1 = [y]) :
    zR w B (N + 2) x (g.put c ⟨q, [⟨2, a, a + 1⟩], []⟩) tb gb dk n L k c 3 a 1 0 0 [y] 0 0 := by
  have hn3 := h.gt.desk.le
  have hl := lim hN
  have hla := kv ha
  rcases hses : (g.ses c).getD (0, 0, 0) with ⟨s1, s2, s3⟩
  have h1 : s1 = 1 := by rw [hses] at hst; exact hst
  refine vE w B N (N + 2) x g _ tb gb dk n L k h hk c hc 3 a 1 0 [3, 0, a, 0, 1] _ rfl (zcr a 1 hla (by omega)) (Qn a 1 (k + 1) c hla (by omega) (by omega) (by omega)) (KZ a y (N + 2) _ c (by omega) hN ha s1 s2 s3 hses (by omega) (fun w3 hs3 => ?_)) (by unfold Ok; simp [xU]; omega) (zak [y] (by simp)) 0 [y] 0 0 (QT y 1 hy)
  have hr := YH w3 B (N + 1) x g hs3 (by omega) hs0 c (YF (by omega)) hst q hv0 hsp 2 a (a + 1) (by omega) (by omega) 1 (by omega)
  rw [hx] at hr
  exact hr
theorem XM (h : xk w B N x g tb gb dk n L k) (hk : 0 ≤ k ∧ k < 1000) (hN : N ≤ 1000000) (c : Nat) (hc : c < n) (a y : Int) (ha : okA a) (hy : 0 ≤ y ∧ y < 65536) (hs0 : ky g.s.ch) (hst : ((g.ses c).getD (0, 0, 0)).1 = 0) (hx : jb g.s.ch 2 a g.s.last 1 = [y]) :
    zR w B (N + 1) x g tb gb dk n L k c 3 a 1 0 0 [y] 0 0 := by
  have hn3 := h.gt.desk.le
  have hl := lim hN
  have hla := kv ha
  rcases hses : (g.ses c).getD (0, 0, 0) with ⟨s1, s2, s3⟩
  have h1 : s1 = 0 := by rw [hses] at hst; exact hst
  refine vE w B N (N + 1) x g _ tb gb dk n L k h hk c hc 3 a 1 0 [3, 0, a, 0, 1] _ rfl (zcr a 1 hla (by omega)) (Qn a 1 (k + 1) c hla (by omega) (by omega) (by omega)) (KZ a y (N + 1) _ c (by omega) hN ha s1 s2 s3 hses (by omega) (fun w3 hs3 => ?_)) (by unfold Ok; simp [xU]; omega) (zak [y] (by simp)) 0 [y] 0 0 (QT y 1 hy)
  have hr := Xf w3 B (N + 1) x g hs3 (by omega) hs0 c (YF (by omega)) hst 2 a (a + 1) (by omega) (by omega) 1 (by omega)
  rw [hx] at hr
  refine hr.mono ?_
  rintro e w4 ⟨A, c', rfl, hr4, hb⟩
  exact ⟨A, c', rfl, hr4, hs3.below hb, hs3.chb hb⟩
theorem kW (h : xk w B N x g tb gb dk n L k) (hk : 0 ≤ k ∧ k < 1000) (hN : N ≤ 1000000) (c : Nat) (hc : c < n) (s1 s2 s3 : Int) (hses : (g.ses c).getD (0, 0, 0) = (s1, s2, s3)) (h1 : 0 ≤ s1 ∧ s1 < 65536) (h2 : 0 ≤ s2 ∧ s2 < 65536) :
    zR w B (N + 1) x g tb gb dk n L k c 3 101 2 0 0 [s1, s2] 0 0 := by
  have hn3 := h.gt.desk.le
  have hl := lim hN
  refine vE w B N (N + 1) x g g tb gb dk n L k h hk c hc 3 101 2 0 [3, 0, 101, 0, 2] (3 :: 2 * (([s1, s2] : List Int).length : Int) :: xU [s1, s2]) rfl (zcr 101 2 (by omega) (by omega)) (Qn 101 2 (k + 1) c (by omega) (by omega) (by omega) (by omega)) ?_ (by unfold Ok; simp [xU]; omega) (zak [s1, s2] (by simp)) 0 [s1, s2] 0 0 (WT s1 s2 2 h1 h2)
  intro w1 m gr o g0 cap B0 hs hcf hP
  exact Vg w1 B N (N + 1) x g g hs (by omega) m gr o hcf c (YF (by omega)) 101 2 [s1, s2] rfl (by omega) (by omega) (fun w2 hs2' hcf2 => zdP w2 B (N + 1) (N + 1) x g g hs2' m gr o hcf2 c (YF (by omega)) s1 s2 s3 hses h1 h2) g0 cap B0 hP
end
end Go.Proofs.YtlalbohhopmpdaaGreat.Top
namespace Go.Proofs.YtlalbohhopmpdaaGreat.Top
open Go.Proofs.YtlalbohhopmpdaaGreat.Tiny
open Go.RowKit Go.Proofs.YtlalbohhopmpdaaGreat.PTop Go.YW.PrintWords Go.YW.PrintLast Go.YW.PrintMore Go.Proofs.YtlalbohhopmpdaaGreat.Num
open Go.Proofs.YtlalbohhopmpdaaGreat.Ring (yM yw Fr2 Fr3 ZB vD)
attribute [local go_sem] zm zu
theorem JN (w : World) (B N : Nat) (x : Ix) (g : Sg) (gb dk : Nat) (L : Nat → Nat → Nat) (h : zQ w B N x g gb dk 0 L (fun _ => []) (fun _ => [])) (hgb : B ≤ gb) (hdk : B ≤ dk) :
    Calls Tryz.prog 30 #[.pointer (some ⟨gb, 0, none⟩)] w fun e w' => e = .returned (.agg #[.bool true, .int .i64 0, .slice none 0 0]) ∧ (∃ L', zQ w' B N x g gb dk 1 L' (fun _ => []) (fun _ => [])) ∧ Ch TG (MS x) B w w' := by
  have hu98 := Tryz.underlying98
  have hu96 := Tryz.underlying96
  have hu95 := Tryz.underlying95
  have hu61 := Tryz.underlying61
  have hu30 := Tryz.underlying30
  obtain ⟨cs, m, gr, o, hk0, hg0, hcf⟩ := h.blk
  have B1 := hQ (show Below w.heap.size w (w.alloc (.cells #[.bool false, .int .i64 0, .slice none 0 0] 61)) from (Below.refl _ _).alloc (Nat.le_refl _) _)
  have X1 := hQ (zi w (.cells #[.bool false, .int .i64 0, .slice none 0 0] 61))
  have D1 := hQ (h.desk.below B1.out)
  have K1 := hQ (zb hk0 B1.out)
  have HG := hQ hg0
  have K0 := hQ hk0
  have HB := hQ h.slv.lt
  have H := hQ h
  have HCF := hQ hcf
  have HGB := hQ hgb
  have HDK := hQ hdk
  have C1 := hQ (show Ch [98, 128] [] B w (w.alloc (.cells #[.bool false, .int .i64 0, .slice none 0 0] 61)) from Ch.of_below B1.out HB.out (fun m hm => by cases hm))
  have HDW := hQ (zF h.desk.blk)
  have HGW := hQ (zF hk0)
  have c13 : (w.alloc (.cells #[.bool false, .int .i64 0, .slice none 0 0] 61)).cell? ⟨gb, 13, none⟩ = some (.pointer (some ⟨dk, 0, none⟩)) := (za K1.out 13).trans HG.out.dk
  have hne : dk ≠ gb := by
    rintro rfl
    have h1 := h.desk.blk
    rw [hk0] at h1
    simp at h1
  have HNE := hQ hne
  clear h hk0 hg0 hcf hgb hdk hne
  go_enter Tryz.func30, Tryz.ntmps30
  go_wp2_with (fail)
  refine (ZK _ dk 0 D1.out (by omega)).mono ?_
  rintro e w2 ⟨rfl, hd2, hw2⟩
  have D2 := hQ hd2
  have K2 := hQ (show w2.heap[gb]? = some (.cells cs 98 (0, 0)) by rw [hw2]; exact (Below.heap_setCell _ ⟨dk, _, none⟩ _ gb (fun e => HNE.out e.symm)).trans K1.out)
  have X2 := hQ (show w2.heap[w.heap.size]? = some (.cells #[.bool false, .int .i64 0, .slice none 0 0] 61 (0, 0)) by rw [hw2]; exact (Below.heap_setCell _ ⟨dk, _, none⟩ _ w.heap.size (fun e => by have := HDW.out; have e2 : w.heap.size = dk := e; omega)).trans X1.out)
  have C2 := hQ (show Ch [98, 128] [] B w w2 by rw [hw2]; exact C1.out.setOld H.out.desk.blk (by decide) HDK.out)
  have Z2 := hQ (show w2.heap.size = w.heap.size + 1 by rw [hw2]; simp [World.setCell])
  clear hd2 hw2 c13
  go_wp2_with (fail)
  have hbd : Below w2.heap.size w2 w2.drew := zk (Below.refl _ _)
  replace K2 := hQ (zb K2.out hbd)
  replace X2 := hQ (zb X2.out hbd)
  replace D2 := hQ (D2.out.below hbd)
  replace C2 := hQ (C2.out.thenBelow hbd HB.out)
  clear hbd
  refine sq_ (ds := [18]) #[false, false, false, false, false, false, false, false, false, false, false, false, false, false, false, false, false, false, false] (fun w' => w'.cell? ⟨gb, 9, none⟩ = some (.int .i64 1024) ∧ w'.cell? ⟨gb, 10, none⟩ = some (.int .i64 1024)) ⟨(yu K2.out HG.out).2.2.2.2.2.2.2.2.2.1, (yu K2.out HG.out).2.2.2.2.2.2.2.2.2.2.1⟩ (fun hHeld => ?_)
  refine pq_ 0 (some 14) ?_
  refine pq_ 1 (some 15) ?_
  refine pq_ 2 (some 16) ?_
  refine pq_ 3 (some 17) ?_
  refine pq_ 4 (some 18) ?_
  refine pq_ 5 (some 19) ?_
  refine pq_ 8 (some 22) ?_
  refine pq_ 9 (some 23) ?_
  refine pq_ 10 (some 24) ?_
  refine pq_ 11 (some 25) ?_
  refine pq_ 15 (some 29) ?_
  refine pq_ 16 (some 30) ?_
  refine tq_ 6 (some 20) hHeld ?_
  refine tq_ 12 (some 26) hHeld ?_
  refine oq_ 7 (some 21) (fun K hK => ?_)
  refine yo Tryz.func54 (by kernel_rfl) rfl #[.int .i64 1024] (by rfl) rfl rfl (by (try simp only [List.map_toArray, List.map_cons, List.map_nil]); first | done | rfl) ?_
  refine (ZB 1024 1024 (by decide) _).mono ?_
  rintro e w3 ⟨gf, g1, b1, rfl, hF, n0, n1, n2, hb⟩
  have K3 := hQ (zb K2.out hb)
  have D3 := hQ (D2.out.below hb)
  have X3 := hQ (zb X2.out hb)
  have C3 := hQ (C2.out.thenBelow hb HB.out)
  have F3 := hQ hF
  have N3 := hQ (And.intro n0 (And.intro n1 n2))
  clear hF n0 n1 n2 hb
  refine ⟨_, rfl, ?_⟩
  refine hK.out _ _ ⟨(yu K3.out HG.out).2.2.2.2.2.2.2.2.2.1, (yu K3.out HG.out).2.2.2.2.2.2.2.2.2.2.1⟩ (fun hHeld => ?_)
  clear hK K
  refine nq_ ?_
  refine oq_ 13 (some 27) (fun K hK => ?_)
  refine yo Tryz.func55 (by kernel_rfl) rfl #[.int .i64 1024] (by rfl) rfl rfl (by (try simp only [List.map_toArray, List.map_cons, List.map_nil]); first | done | rfl) ?_
  refine (vD 1024 _).mono ?_
  rintro e w4 ⟨g2, b2, rfl, hR, n3, n4, hb⟩
  have K4 := hQ (zb K3.out hb)
  have D4 := hQ (D3.out.below hb)
  have X4 := hQ (zb X3.out hb)
  have C4 := hQ (C3.out.thenBelow hb HB.out)
  have F4 := hQ (F3.out.below hb)
  have R4 := hQ (show yw w4 g2 b2 1024 [] from hR)
  have N4 := hQ (And.intro n3 n4)
  have S3 := hQ (And.intro (qf F3.out) True.intro)
  clear hR n3 n4 hb
  have q0 : w4.cell? ⟨gb, 15, none⟩ = some (cs[15]'(by have := HG.out.size; omega)) := (za K4.out 15).trans (Array.getElem?_eq_getElem (by have := HG.out.size; omega))
  have q1 : w4.cell? ⟨gb, 16, none⟩ = some (cs[16]'(by have := HG.out.size; omega)) := (za K4.out 16).trans (Array.getElem?_eq_getElem (by have := HG.out.size; omega))
  have fq : ∀ i, w4.frozen? ⟨gb, i, none⟩ = false := fun i => zh K4.out i
  refine ⟨_, rfl, ?_⟩
  refine hK.out _ _ ⟨(yu K4.out HG.out).2.2.2.2.2.2.2.2.2.1, (yu K4.out HG.out).2.2.2.2.2.2.2.2.2.2.1⟩ (fun hHeld => ?_)
  clear hK K
  refine nq_ ?_
  refine pq_ 14 (some 28) ?_
  refine pq_ 17 (some 31) ?_
  refine kr (i := 18) (N := none) #[true, true, true, true, true, true, true, true, true, true, true, true, true, true, true, true, true, true, true] rfl rfl (by kernel_rfl) (by decide) (fun K hK => ?_)
  refine jJ (w1 := ?_) (by rfl) rfl ?_ ?_
  rotate_left
  · go_simp
    rfl
  refine hK.out _ _ ?_
  clear hK K
  refine xP (by kernel_rfl) ?_

  have n3 := N3.out
  have n4 := N4.out
  have z2 := Z2.out
  have hgw := HGW.out
  have hdw := HDW.out
  obtain ⟨⟨⟨_, _, s0⟩, ⟨_, _, s1⟩, ⟨_, _, s2⟩⟩, _⟩ := S3.out
  have l0 := zF s0
  have l1 := zF s1
  have l2 := zF s2
  have n3' : w.heap.size + 1 ≤ gf ∧ w.heap.size + 1 ≤ g1 ∧ w.heap.size + 1 ≤ b1 := by rw [← z2]; exact n3
  have z3 : w.heap.size + 1 ≤ w3.heap.size := by omega
  have K5 := hQ (xD (i := 16) (v := .pointer (some ⟨g2, 0, none⟩)) (xD (i := 15) (v := .pointer (some ⟨gf, 0, none⟩)) K4.out))
  have C5 := hQ ((C4.out.setOld (j := 15) (v := .pointer (some ⟨gf, 0, none⟩)) K0.out (by decide) HGB.out).setOld (j := 16) (v := .pointer (some ⟨g2, 0, none⟩)) K0.out (by decide) HGB.out)
  have F5 := hQ ((F4.out.far (i := 15) (v := .pointer (some ⟨gf, 0, none⟩)) (show gf ≠ gb by omega) (show g1 ≠ gb by omega) (show b1 ≠ gb by omega)).far (i := 16) (v := .pointer (some ⟨g2, 0, none⟩)) (show gf ≠ gb by omega) (show g1 ≠ gb by omega) (show b1 ≠ gb by omega))
  have R5 := hQ (yw.farS (j := 16) (v := .pointer (some ⟨g2, 0, none⟩)) (yw.farS (j := 15) (v := .pointer (some ⟨gf, 0, none⟩)) R4.out (show g2 ≠ gb by omega) (show b2 ≠ gb by omega)) (show g2 ≠ gb by omega) (show b2 ≠ gb by omega))
  have D5 := hQ (show kG ((w4.setCell ⟨gb, 15, none⟩ (.pointer (some ⟨gf, 0, none⟩))).setCell ⟨gb, 16, none⟩ (.pointer (some ⟨g2, 0, none⟩))) dk 1 from ⟨(Below.heap_setCell _ ⟨gb, 16, none⟩ _ dk HNE.out).trans ((Below.heap_setCell _ ⟨gb, 15, none⟩ _ dk HNE.out).trans D4.out.blk), by omega⟩)
  have X5 := hQ (show ((w4.setCell ⟨gb, 15, none⟩ (.pointer (some ⟨gf, 0, none⟩))).setCell ⟨gb, 16, none⟩ (.pointer (some ⟨g2, 0, none⟩))).heap[w.heap.size]? = some (.cells #[.bool false, .int .i64 0, .slice none 0 0] 61 (0, 0)) from (Below.heap_setCell _ ⟨gb, 16, none⟩ _ w.heap.size (show w.heap.size ≠ gb by omega)).trans ((Below.heap_setCell _ ⟨gb, 15, none⟩ _ w.heap.size (show w.heap.size ≠ gb by omega)).trans X4.out))
  have G5 := zQ.add H.out C5.out K5.out (GCs.add HG.out (by omega) gf g1 b1 g2 b2) HCF.out D5.out F5.out R5.out ⟨by omega, by omega, by omega, by omega, by omega⟩ hgw hdw ⟨by omega, by omega, by omega, by omega, by omega, by omega⟩
  have L5 : xh B N x g gb dk 1 (jP L 0 gf g1 b1 g2 b2) (fun _ => []) (fun _ => []) w _ w.heap.size w.heap.size := ⟨G5, C5.out.mono (by decide) (fun m hm => by cases hm) H.out.slv.isMap, HB.out, ⟨_, _, _, X5.out, by decide⟩, ⟨_, _, _, X5.out, by decide⟩, Nat.le_refl _, Nat.le_refl _⟩
  have HL := hQ L5
  clear G5 L5 K5 C5 F5 R5 D5 K4 D4 C4 F4 R4 X4 n3 n4 z2 hgw hdw s0 s1 s2 l0 l1 l2 n3' z3 q0 q1 fq hHeld
  generalize hW5 : (w4.setCell ⟨gb, 15, none⟩ (.pointer (some ⟨gf, 0, none⟩))).setCell ⟨gb, 16, none⟩ (.pointer (some ⟨g2, 0, none⟩)) = w5 at *
  clear hW5
  obtain ⟨y0, y1, y2⟩ := kK X5.out
  have fy : ∀ i, w5.frozen? ⟨w.heap.size, i, none⟩ = false := fun i => zh X5.out i
  go_wp2
  refine bodyPost_ret (v := .agg #[.bool true, .int .i64 0, .slice none 0 0]) ?_ rfl ⟨rfl, ?_⟩
  · simp [results, Tryz.results30, go_sem, hu61, y0, y1, y2]
  · have hfin : ∀ W : World, xh B N x g gb dk 1 (jP L 0 gf g1 b1 g2 b2) (fun _ => []) (fun _ => []) w W w.heap.size w.heap.size → (∃ L', zQ W B N x g gb dk 1 L' (fun _ => []) (fun _ => [])) ∧ Ch TG (MS x) B w W := fun W hW => ⟨⟨_, hW.gt⟩, hW.ch⟩
    refine hfin _ ?_
    repeat (with_reducible first | exact HL.out | (refine xh.set ?_ (Or.inl rfl)))
theorem Jv (w : World) (B N : Nat) (x : Ix) (g : Sg) (gb dk : Nat) (L : Nat → Nat → Nat) (h : zQ w B N x g gb dk 1 L (fun _ => []) (fun _ => [])) (hgb : B ≤ gb) (hdk : B ≤ dk) :
    Calls Tryz.prog 30 #[.pointer (some ⟨gb, 0, none⟩)] w fun e w' => e = .returned (.agg #[.bool true, .int .i64 1, .slice none 0 0]) ∧ (∃ L', zQ w' B N x g gb dk 2 L' (fun _ => []) (fun _ => [])) ∧ Ch TG (MS x) B w w' := by
  have hu98 := Tryz.underlying98
  have hu96 := Tryz.underlying96
  have hu95 := Tryz.underlying95
  have hu61 := Tryz.underlying61
  have hu30 := Tryz.underlying30
  obtain ⟨cs, m, gr, o, hk0, hg0, hcf⟩ := h.blk
  have B1 := hQ (show Below w.heap.size w (w.alloc (.cells #[.bool false, .int .i64 0, .slice none 0 0] 61)) from (Below.refl _ _).alloc (Nat.le_refl _) _)
  have X1 := hQ (zi w (.cells #[.bool false, .int .i64 0, .slice none 0 0] 61))
  have D1 := hQ (h.desk.below B1.out)
  have K1 := hQ (zb hk0 B1.out)
  have HG := hQ hg0
  have K0 := hQ hk0
  have HB := hQ h.slv.lt
  have H := hQ h
  have HCF := hQ hcf
  have HGB := hQ hgb
  have HDK := hQ hdk
  have C1 := hQ (show Ch [98, 128] [] B w (w.alloc (.cells #[.bool false, .int .i64 0, .slice none 0 0] 61)) from Ch.of_below B1.out HB.out (fun m hm => by cases hm))
  have HDW := hQ (zF h.desk.blk)
  have HGW := hQ (zF hk0)
  have c13 : (w.alloc (.cells #[.bool false, .int .i64 0, .slice none 0 0] 61)).cell? ⟨gb, 13, none⟩ = some (.pointer (some ⟨dk, 0, none⟩)) := (za K1.out 13).trans HG.out.dk
  have hne : dk ≠ gb := by
    rintro rfl
    have h1 := h.desk.blk
    rw [hk0] at h1
    simp at h1
  have HNE := hQ hne
  clear h hk0 hg0 hcf hgb hdk hne
  go_enter Tryz.func30, Tryz.ntmps30
  go_wp2_with (fail)
  refine (ZK _ dk 1 D1.out (by omega)).mono ?_
  rintro e w2 ⟨rfl, hd2, hw2⟩
  have D2 := hQ hd2
  have K2 := hQ (show w2.heap[gb]? = some (.cells cs 98 (0, 0)) by rw [hw2]; exact (Below.heap_setCell _ ⟨dk, _, none⟩ _ gb (fun e => HNE.out e.symm)).trans K1.out)
  have X2 := hQ (show w2.heap[w.heap.size]? = some (.cells #[.bool false, .int .i64 0, .slice none 0 0] 61 (0, 0)) by rw [hw2]; exact (Below.heap_setCell _ ⟨dk, _, none⟩ _ w.heap.size (fun e => by have := HDW.out; have e2 : w.heap.size = dk := e; omega)).trans X1.out)
  have C2 := hQ (show Ch [98, 128] [] B w w2 by rw [hw2]; exact C1.out.setOld H.out.desk.blk (by decide) HDK.out)
  have Z2 := hQ (show w2.heap.size = w.heap.size + 1 by rw [hw2]; simp [World.setCell])
  clear hd2 hw2 c13
  go_wp2_with (fail)
  have hbd : Below w2.heap.size w2 w2.drew := zk (Below.refl _ _)
  replace K2 := hQ (zb K2.out hbd)
  replace X2 := hQ (zb X2.out hbd)
  replace D2 := hQ (D2.out.below hbd)
  replace C2 := hQ (C2.out.thenBelow hbd HB.out)
  clear hbd
  refine sq_ (ds := [18]) #[false, false, false, false, false, false, false, false, false, false, false, false, false, false, false, false, false, false, false] (fun w' => w'.cell? ⟨gb, 9, none⟩ = some (.int .i64 1024) ∧ w'.cell? ⟨gb, 10, none⟩ = some (.int .i64 1024)) ⟨(yu K2.out HG.out).2.2.2.2.2.2.2.2.2.1, (yu K2.out HG.out).2.2.2.2.2.2.2.2.2.2.1⟩ (fun hHeld => ?_)
  refine pq_ 0 (some 14) ?_
  refine pq_ 1 (some 15) ?_
  refine pq_ 2 (some 16) ?_
  refine pq_ 3 (some 17) ?_
  refine pq_ 4 (some 18) ?_
  refine pq_ 5 (some 19) ?_
  refine pq_ 8 (some 22) ?_
  refine pq_ 9 (some 23) ?_
  refine pq_ 10 (some 24) ?_
  refine pq_ 11 (some 25) ?_
  refine pq_ 15 (some 29) ?_
  refine pq_ 16 (some 30) ?_
  refine tq_ 6 (some 20) hHeld ?_
  refine tq_ 12 (some 26) hHeld ?_
  refine oq_ 7 (some 21) (fun K hK => ?_)
  refine yo Tryz.func54 (by kernel_rfl) rfl #[.int .i64 1024] (by rfl) rfl rfl (by (try simp only [List.map_toArray, List.map_cons, List.map_nil]); first | done | rfl) ?_
  refine (ZB 1024 1024 (by decide) _).mono ?_
  rintro e w3 ⟨gf, g1, b1, rfl, hF, n0, n1, n2, hb⟩
  have K3 := hQ (zb K2.out hb)
  have D3 := hQ (D2.out.below hb)
  have X3 := hQ (zb X2.out hb)
  have C3 := hQ (C2.out.thenBelow hb HB.out)
  have F3 := hQ hF
  have N3 := hQ (And.intro n0 (And.intro n1 n2))
  clear hF n0 n1 n2 hb
  refine ⟨_, rfl, ?_⟩
  refine hK.out _ _ ⟨(yu K3.out HG.out).2.2.2.2.2.2.2.2.2.1, (yu K3.out HG.out).2.2.2.2.2.2.2.2.2.2.1⟩ (fun hHeld => ?_)
  clear hK K
  refine nq_ ?_
  refine oq_ 13 (some 27) (fun K hK => ?_)
  refine yo Tryz.func55 (by kernel_rfl) rfl #[.int .i64 1024] (by rfl) rfl rfl (by (try simp only [List.map_toArray, List.map_cons, List.map_nil]); first | done | rfl) ?_
  refine (vD 1024 _).mono ?_
  rintro e w4 ⟨g2, b2, rfl, hR, n3, n4, hb⟩
  have K4 := hQ (zb K3.out hb)
  have D4 := hQ (D3.out.below hb)
  have X4 := hQ (zb X3.out hb)
  have C4 := hQ (C3.out.thenBelow hb HB.out)
  have F4 := hQ (F3.out.below hb)
  have R4 := hQ (show yw w4 g2 b2 1024 [] from hR)
  have N4 := hQ (And.intro n3 n4)
  have S3 := hQ (And.intro (qf F3.out) True.intro)
  clear hR n3 n4 hb
  have q0 : w4.cell? ⟨gb, 17, none⟩ = some (cs[17]'(by have := HG.out.size; omega)) := (za K4.out 17).trans (Array.getElem?_eq_getElem (by have := HG.out.size; omega))
  have q1 : w4.cell? ⟨gb, 18, none⟩ = some (cs[18]'(by have := HG.out.size; omega)) := (za K4.out 18).trans (Array.getElem?_eq_getElem (by have := HG.out.size; omega))
  have fq : ∀ i, w4.frozen? ⟨gb, i, none⟩ = false := fun i => zh K4.out i
  refine ⟨_, rfl, ?_⟩
  refine hK.out _ _ ⟨(yu K4.out HG.out).2.2.2.2.2.2.2.2.2.1, (yu K4.out HG.out).2.2.2.2.2.2.2.2.2.2.1⟩ (fun hHeld => ?_)
  clear hK K
  refine nq_ ?_
  refine pq_ 14 (some 28) ?_
  refine pq_ 17 (some 31) ?_
  refine kr (i := 18) (N := none) #[true, true, true, true, true, true, true, true, true, true, true, true, true, true, true, true, true, true, true] rfl rfl (by kernel_rfl) (by decide) (fun K hK => ?_)
  refine jJ (w1 := ?_) (by rfl) rfl ?_ ?_
  rotate_left
  · go_simp
    rfl
  refine hK.out _ _ ?_
  clear hK K
  refine xP (by kernel_rfl) ?_

  have n3 := N3.out
  have n4 := N4.out
  have z2 := Z2.out
  have hgw := HGW.out
  have hdw := HDW.out
  obtain ⟨⟨⟨_, _, s0⟩, ⟨_, _, s1⟩, ⟨_, _, s2⟩⟩, _⟩ := S3.out
  have l0 := zF s0
  have l1 := zF s1
  have l2 := zF s2
  have n3' : w.heap.size + 1 ≤ gf ∧ w.heap.size + 1 ≤ g1 ∧ w.heap.size + 1 ≤ b1 := by rw [← z2]; exact n3
  have z3 : w.heap.size + 1 ≤ w3.heap.size := by omega
  have K5 := hQ (xD (i := 18) (v := .pointer (some ⟨g2, 0, none⟩)) (xD (i := 17) (v := .pointer (some ⟨gf, 0, none⟩)) K4.out))
  have C5 := hQ ((C4.out.setOld (j := 17) (v := .pointer (some ⟨gf, 0, none⟩)) K0.out (by decide) HGB.out).setOld (j := 18) (v := .pointer (some ⟨g2, 0, none⟩)) K0.out (by decide) HGB.out)
  have F5 := hQ ((F4.out.far (i := 17) (v := .pointer (some ⟨gf, 0, none⟩)) (show gf ≠ gb by omega) (show g1 ≠ gb by omega) (show b1 ≠ gb by omega)).far (i := 18) (v := .pointer (some ⟨g2, 0, none⟩)) (show gf ≠ gb by omega) (show g1 ≠ gb by omega) (show b1 ≠ gb by omega))
  have R5 := hQ (yw.farS (j := 18) (v := .pointer (some ⟨g2, 0, none⟩)) (yw.farS (j := 17) (v := .pointer (some ⟨gf, 0, none⟩)) R4.out (show g2 ≠ gb by omega) (show b2 ≠ gb by omega)) (show g2 ≠ gb by omega) (show b2 ≠ gb by omega))
  have D5 := hQ (show kG ((w4.setCell ⟨gb, 17, none⟩ (.pointer (some ⟨gf, 0, none⟩))).setCell ⟨gb, 18, none⟩ (.pointer (some ⟨g2, 0, none⟩))) dk 2 from ⟨(Below.heap_setCell _ ⟨gb, 18, none⟩ _ dk HNE.out).trans ((Below.heap_setCell _ ⟨gb, 17, none⟩ _ dk HNE.out).trans D4.out.blk), by omega⟩)
  have X5 := hQ (show ((w4.setCell ⟨gb, 17, none⟩ (.pointer (some ⟨gf, 0, none⟩))).setCell ⟨gb, 18, none⟩ (.pointer (some ⟨g2, 0, none⟩))).heap[w.heap.size]? = some (.cells #[.bool false, .int .i64 0, .slice none 0 0] 61 (0, 0)) from (Below.heap_setCell _ ⟨gb, 18, none⟩ _ w.heap.size (show w.heap.size ≠ gb by omega)).trans ((Below.heap_setCell _ ⟨gb, 17, none⟩ _ w.heap.size (show w.heap.size ≠ gb by omega)).trans X4.out))
  have G5 := zQ.add H.out C5.out K5.out (GCs.add HG.out (by omega) gf g1 b1 g2 b2) HCF.out D5.out F5.out R5.out ⟨by omega, by omega, by omega, by omega, by omega⟩ hgw hdw ⟨by omega, by omega, by omega, by omega, by omega, by omega⟩
  have L5 : xh B N x g gb dk 2 (jP L 1 gf g1 b1 g2 b2) (fun _ => []) (fun _ => []) w _ w.heap.size w.heap.size := ⟨G5, C5.out.mono (by decide) (fun m hm => by cases hm) H.out.slv.isMap, HB.out, ⟨_, _, _, X5.out, by decide⟩, ⟨_, _, _, X5.out, by decide⟩, Nat.le_refl _, Nat.le_refl _⟩
  have HL := hQ L5
  clear G5 L5 K5 C5 F5 R5 D5 K4 D4 C4 F4 R4 X4 n3 n4 z2 hgw hdw s0 s1 s2 l0 l1 l2 n3' z3 q0 q1 fq hHeld
  generalize hW5 : (w4.setCell ⟨gb, 17, none⟩ (.pointer (some ⟨gf, 0, none⟩))).setCell ⟨gb, 18, none⟩ (.pointer (some ⟨g2, 0, none⟩)) = w5 at *
  clear hW5
  obtain ⟨y0, y1, y2⟩ := kK X5.out
  have fy : ∀ i, w5.frozen? ⟨w.heap.size, i, none⟩ = false := fun i => zh X5.out i
  go_wp2
  refine bodyPost_ret (v := .agg #[.bool true, .int .i64 1, .slice none 0 0]) ?_ rfl ⟨rfl, ?_⟩
  · simp [results, Tryz.results30, go_sem, hu61, y0, y1, y2]
  · have hfin : ∀ W : World, xh B N x g gb dk 2 (jP L 1 gf g1 b1 g2 b2) (fun _ => []) (fun _ => []) w W w.heap.size w.heap.size → (∃ L', zQ W B N x g gb dk 2 L' (fun _ => []) (fun _ => [])) ∧ Ch TG (MS x) B w W := fun W hW => ⟨⟨_, hW.gt⟩, hW.ch⟩
    refine hfin _ ?_
    repeat (with_reducible first | exact HL.out | (refine xh.set ?_ (Or.inl rfl)))
theorem JK (w : World) (B N : Nat) (x : Ix) (g : Sg) (gb dk : Nat) (L : Nat → Nat → Nat) (h : zQ w B N x g gb dk 2 L (fun _ => []) (fun _ => [])) (hgb : B ≤ gb) (hdk : B ≤ dk) :
    Calls Tryz.prog 30 #[.pointer (some ⟨gb, 0, none⟩)] w fun e w' => e = .returned (.agg #[.bool true, .int .i64 2, .slice none 0 0]) ∧ (∃ L', zQ w' B N x g gb dk 3 L' (fun _ => []) (fun _ => [])) ∧ Ch TG (MS x) B w w' := by
  have hu98 := Tryz.underlying98
  have hu96 := Tryz.underlying96
  have hu95 := Tryz.underlying95
  have hu61 := Tryz.underlying61
  have hu30 := Tryz.underlying30
  obtain ⟨cs, m, gr, o, hk0, hg0, hcf⟩ := h.blk
  have B1 := hQ (show Below w.heap.size w (w.alloc (.cells #[.bool false, .int .i64 0, .slice none 0 0] 61)) from (Below.refl _ _).alloc (Nat.le_refl _) _)
  have X1 := hQ (zi w (.cells #[.bool false, .int .i64 0, .slice none 0 0] 61))
  have D1 := hQ (h.desk.below B1.out)
  have K1 := hQ (zb hk0 B1.out)
  have HG := hQ hg0
  have K0 := hQ hk0
  have HB := hQ h.slv.lt
  have H := hQ h
  have HCF := hQ hcf
  have HGB := hQ hgb
  have HDK := hQ hdk
  have C1 := hQ (show Ch [98, 128] [] B w (w.alloc (.cells #[.bool false, .int .i64 0, .slice none 0 0] 61)) from Ch.of_below B1.out HB.out (fun m hm => by cases hm))
  have HDW := hQ (zF h.desk.blk)
  have HGW := hQ (zF hk0)
  have c13 : (w.alloc (.cells #[.bool false, .int .i64 0, .slice none 0 0] 61)).cell? ⟨gb, 13, none⟩ = some (.pointer (some ⟨dk, 0, none⟩)) := (za K1.out 13).trans HG.out.dk
  have hne : dk ≠ gb := by
    rintro rfl
    have h1 := h.desk.blk
    rw [hk0] at h1
    simp at h1
  have HNE := hQ hne
  clear h hk0 hg0 hcf hgb hdk hne
  go_enter Tryz.func30, Tryz.ntmps30
  go_wp2_with (fail)
  refine (ZK _ dk 2 D1.out (by omega)).mono ?_
  rintro e w2 ⟨rfl, hd2, hw2⟩
  have D2 := hQ hd2
  have K2 := hQ (show w2.heap[gb]? = some (.cells cs 98 (0, 0)) by rw [hw2]; exact (Below.heap_setCell _ ⟨dk, _, none⟩ _ gb (fun e => HNE.out e.symm)).trans K1.out)
  have X2 := hQ (show w2.heap[w.heap.size]? = some (.cells #[.bool false, .int .i64 0, .slice none 0 0] 61 (0, 0)) by rw [hw2]; exact (Below.heap_setCell _ ⟨dk, _, none⟩ _ w.heap.size (fun e => by have := HDW.out; have e2 : w.heap.size = dk := e; omega)).trans X1.out)
  have C2 := hQ (show Ch [98, 128] [] B w w2 by rw [hw2]; exact C1.out.setOld H.out.desk.blk (by decide) HDK.out)
  have Z2 := hQ (show w2.heap.size = w.heap.size + 1 by rw [hw2]; simp [World.setCell])
  clear hd2 hw2 c13
  go_wp2_with (fail)
  have hbd : Below w2.heap.size w2 w2.drew := zk (Below.refl _ _)
  replace K2 := hQ (zb K2.out hbd)
  replace X2 := hQ (zb X2.out hbd)
  replace D2 := hQ (D2.out.below hbd)
  replace C2 := hQ (C2.out.thenBelow hbd HB.out)
  clear hbd
  refine sq_ (ds := [18]) #[false, false, false, false, false, false, false, false, false, false, false, false, false, false, false, false, false, false, false] (fun w' => w'.cell? ⟨gb, 9, none⟩ = some (.int .i64 1024) ∧ w'.cell? ⟨gb, 10, none⟩ = some (.int .i64 1024)) ⟨(yu K2.out HG.out).2.2.2.2.2.2.2.2.2.1, (yu K2.out HG.out).2.2.2.2.2.2.2.2.2.2.1⟩ (fun hHeld => ?_)
  refine pq_ 0 (some 14) ?_
  refine pq_ 1 (some 15) ?_
  refine pq_ 2 (some 16) ?_
  refine pq_ 3 (some 17) ?_
  refine pq_ 4 (some 18) ?_
  refine pq_ 5 (some 19) ?_
  refine pq_ 8 (some 22) ?_
  refine pq_ 9 (some 23) ?_
  refine pq_ 10 (some 24) ?_
  refine pq_ 11 (some 25) ?_
  refine pq_ 15 (some 29) ?_
  refine pq_ 16 (some 30) ?_
  refine tq_ 6 (some 20) hHeld ?_
  refine tq_ 12 (some 26) hHeld ?_
  refine oq_ 7 (some 21) (fun K hK => ?_)
  refine yo Tryz.func54 (by kernel_rfl) rfl #[.int .i64 1024] (by rfl) rfl rfl (by (try simp only [List.map_toArray, List.map_cons, List.map_nil]); first | done | rfl) ?_
  refine (ZB 1024 1024 (by decide) _).mono ?_
  rintro e w3 ⟨gf, g1, b1, rfl, hF, n0, n1, n2, hb⟩
  have K3 := hQ (zb K2.out hb)
  have D3 := hQ (D2.out.below hb)
  have X3 := hQ (zb X2.out hb)
  have C3 := hQ (C2.out.thenBelow hb HB.out)
  have F3 := hQ hF
  have N3 := hQ (And.intro n0 (And.intro n1 n2))
  clear hF n0 n1 n2 hb
  refine ⟨_, rfl, ?_⟩
  refine hK.out _ _ ⟨(yu K3.out HG.out).2.2.2.2.2.2.2.2.2.1, (yu K3.out HG.out).2.2.2.2.2.2.2.2.2.2.1⟩ (fun hHeld => ?_)
  clear hK K
  refine nq_ ?_
  refine oq_ 13 (some 27) (fun K hK => ?_)
  refine yo Tryz.func55 (by kernel_rfl) rfl #[.int .i64 1024] (by rfl) rfl rfl (by (try simp only [List.map_toArray, List.map_cons, List.map_nil]); first | done | rfl) ?_
  refine (vD 1024 _).mono ?_
  rintro e w4 ⟨g2, b2, rfl, hR, n3, n4, hb⟩
  have K4 := hQ (zb K3.out hb)
  have D4 := hQ (D3.out.below hb)
  have X4 := hQ (zb X3.out hb)
  have C4 := hQ (C3.out.thenBelow hb HB.out)
  have F4 := hQ (F3.out.below hb)
  have R4 := hQ (show yw w4 g2 b2 1024 [] from hR)
  have N4 := hQ (And.intro n3 n4)
  have S3 := hQ (And.intro (qf F3.out) True.intro)
  clear hR n3 n4 hb
  have q0 : w4.cell? ⟨gb, 19, none⟩ = some (cs[19]'(by have := HG.out.size; omega)) := (za K4.out 19).trans (Array.getElem?_eq_getElem (by have := HG.out.size; omega))
  have q1 : w4.cell? ⟨gb, 20, none⟩ = some (cs[20]'(by have := HG.out.size; omega)) := (za K4.out 20).trans (Array.getElem?_eq_getElem (by have := HG.out.size; omega))
  have fq : ∀ i, w4.frozen? ⟨gb, i, none⟩ = false := fun i => zh K4.out i
  refine ⟨_, rfl, ?_⟩
  refine hK.out _ _ ⟨(yu K4.out HG.out).2.2.2.2.2.2.2.2.2.1, (yu K4.out HG.out).2.2.2.2.2.2.2.2.2.2.1⟩ (fun hHeld => ?_)
  clear hK K
  refine nq_ ?_
  refine pq_ 14 (some 28) ?_
  refine pq_ 17 (some 31) ?_
  refine kr (i := 18) (N := none) #[true, true, true, true, true, true, true, true, true, true, true, true, true, true, true, true, true, true, true] rfl rfl (by kernel_rfl) (by decide) (fun K hK => ?_)
  refine jJ (w1 := ?_) (by rfl) rfl ?_ ?_
  rotate_left
  · go_simp
    rfl
  refine hK.out _ _ ?_
  clear hK K
  refine xP (by kernel_rfl) ?_

  have n3 := N3.out
  have n4 := N4.out
  have z2 := Z2.out
  have hgw := HGW.out
  have hdw := HDW.out
  obtain ⟨⟨⟨_, _, s0⟩, ⟨_, _, s1⟩, ⟨_, _, s2⟩⟩, _⟩ := S3.out
  have l0 := zF s0
  have l1 := zF s1
  have l2 := zF s2
  have n3' : w.heap.size + 1 ≤ gf ∧ w.heap.size + 1 ≤ g1 ∧ w.heap.size + 1 ≤ b1 := by rw [← z2]; exact n3
  have z3 : w.heap.size + 1 ≤ w3.heap.size := by omega
  have K5 := hQ (xD (i := 20) (v := .pointer (some ⟨g2, 0, none⟩)) (xD (i := 19) (v := .pointer (some ⟨gf, 0, none⟩)) K4.out))
  have C5 := hQ ((C4.out.setOld (j := 19) (v := .pointer (some ⟨gf, 0, none⟩)) K0.out (by decide) HGB.out).setOld (j := 20) (v := .pointer (some ⟨g2, 0, none⟩)) K0.out (by decide) HGB.out)
  have F5 := hQ ((F4.out.far (i := 19) (v := .pointer (some ⟨gf, 0, none⟩)) (show gf ≠ gb by omega) (show g1 ≠ gb by omega) (show b1 ≠ gb by omega)).far (i := 20) (v := .pointer (some ⟨g2, 0, none⟩)) (show gf ≠ gb by omega) (show g1 ≠ gb by omega) (show b1 ≠ gb by omega))
  have R5 := hQ (yw.farS (j := 20) (v := .pointer (some ⟨g2, 0, none⟩)) (yw.farS (j := 19) (v := .pointer (some ⟨gf, 0, none⟩)) R4.out (show g2 ≠ gb by omega) (show b2 ≠ gb by omega)) (show g2 ≠ gb by omega) (show b2 ≠ gb by omega))
  have D5 := hQ (show kG ((w4.setCell ⟨gb, 19, none⟩ (.pointer (some ⟨gf, 0, none⟩))).setCell ⟨gb, 20, none⟩ (.pointer (some ⟨g2, 0, none⟩))) dk 3 from ⟨(Below.heap_setCell _ ⟨gb, 20, none⟩ _ dk HNE.out).trans ((Below.heap_setCell _ ⟨gb, 19, none⟩ _ dk HNE.out).trans D4.out.blk), by omega⟩)
  have X5 := hQ (show ((w4.setCell ⟨gb, 19, none⟩ (.pointer (some ⟨gf, 0, none⟩))).setCell ⟨gb, 20, none⟩ (.pointer (some ⟨g2, 0, none⟩))).heap[w.heap.size]? = some (.cells #[.bool false, .int .i64 0, .slice none 0 0] 61 (0, 0)) from (Below.heap_setCell _ ⟨gb, 20, none⟩ _ w.heap.size (show w.heap.size ≠ gb by omega)).trans ((Below.heap_setCell _ ⟨gb, 19, none⟩ _ w.heap.size (show w.heap.size ≠ gb by omega)).trans X4.out))
  have G5 := zQ.add H.out C5.out K5.out (GCs.add HG.out (by omega) gf g1 b1 g2 b2) HCF.out D5.out F5.out R5.out ⟨by omega, by omega, by omega, by omega, by omega⟩ hgw hdw ⟨by omega, by omega, by omega, by omega, by omega, by omega⟩
  have L5 : xh B N x g gb dk 3 (jP L 2 gf g1 b1 g2 b2) (fun _ => []) (fun _ => []) w _ w.heap.size w.heap.size := ⟨G5, C5.out.mono (by decide) (fun m hm => by cases hm) H.out.slv.isMap, HB.out, ⟨_, _, _, X5.out, by decide⟩, ⟨_, _, _, X5.out, by decide⟩, Nat.le_refl _, Nat.le_refl _⟩
  have HL := hQ L5
  clear G5 L5 K5 C5 F5 R5 D5 K4 D4 C4 F4 R4 X4 n3 n4 z2 hgw hdw s0 s1 s2 l0 l1 l2 n3' z3 q0 q1 fq hHeld
  generalize hW5 : (w4.setCell ⟨gb, 19, none⟩ (.pointer (some ⟨gf, 0, none⟩))).setCell ⟨gb, 20, none⟩ (.pointer (some ⟨g2, 0, none⟩)) = w5 at *
  clear hW5
  obtain ⟨y0, y1, y2⟩ := kK X5.out
  have fy : ∀ i, w5.frozen? ⟨w.heap.size, i, none⟩ = false := fun i => zh X5.out i
  go_wp2
  refine bodyPost_ret (v := .agg #[.bool true, .int .i64 2, .slice none 0 0]) ?_ rfl ⟨rfl, ?_⟩
  · simp [results, Tryz.results30, go_sem, hu61, y0, y1, y2]
  · have hfin : ∀ W : World, xh B N x g gb dk 3 (jP L 2 gf g1 b1 g2 b2) (fun _ => []) (fun _ => []) w W w.heap.size w.heap.size → (∃ L', zQ W B N x g gb dk 3 L' (fun _ => []) (fun _ => [])) ∧ Ch TG (MS x) B w W := fun W hW => ⟨⟨_, hW.gt⟩, hW.ch⟩
    refine hfin _ ?_
    repeat (with_reducible first | exact HL.out | (refine xh.set ?_ (Or.inl rfl)))
theorem Xw (w : World) (B N : Nat) (x : Ix) (g : Sg) (gb dk : Nat) (L : Nat → Nat → Nat) (h : zQ w B N x g gb dk 0 L (fun _ => []) (fun _ => [])) (hgb : B ≤ gb) (hdk : B ≤ dk) :
    Calls Tryz.prog 15 #[.pointer (some ⟨gb, 0, none⟩), .agg #[.int .i64 1, .int .i64 0, .int .i64 0, .slice none 0 0, .int .i64 0, .int .i64 0, .slice none 0 0]] w fun e w' => e = .returned (.agg #[.bool true, .int .i64 0, .slice none 0 0]) ∧ (∃ L', zQ w' B N x g gb dk 1 L' (fun _ => []) (fun _ => [])) ∧ Ch TG (MS x) B w w' := by
  have hu64 := Tryz.underlying64
  have hu61 := Tryz.underlying61
  have B1 := hQ (show Below w.heap.size w ((w.alloc (.cells #[.int .i64 1, .int .i64 0, .int .i64 0, .slice none 0 0, .int .i64 0, .int .i64 0, .slice none 0 0] 64)).alloc (.cells #[.bool false, .int .i64 0, .slice none 0 0] 61)) from ((Below.refl _ _).alloc (Nat.le_refl _) _).alloc (by simp) _)
  have Y1 := hQ (zg (zi w (.cells #[.int .i64 1, .int .i64 0, .int .i64 0, .slice none 0 0, .int .i64 0, .int .i64 0, .slice none 0 0] 64)) (.cells #[.bool false, .int .i64 0, .slice none 0 0] 61))
  have X1 := hQ (yx w (.cells #[.int .i64 1, .int .i64 0, .int .i64 0, .slice none 0 0, .int .i64 0, .int .i64 0, .slice none 0 0] 64) (.cells #[.bool false, .int .i64 0, .slice none 0 0] 61))
  have L1 := hQ (xh.mk' h B1.out X1.out X1.out (by omega) (by omega) (by decide) (by decide))
  have HI := JN _ B N x g gb dk L L1.out.gt hgb hdk
  clear h
  obtain ⟨y0, y1, y2, y3, y4, y5, y6⟩ := Wp Y1.out
  go_enter Tryz.func15, Tryz.ntmps15
  go_wp2_with (fail)
  refine HI.mono ?_
  rintro e w3 ⟨rfl, ⟨L', hg3⟩, hc3⟩
  have X3 := hQ (hc3.cell X1.out (by decide))
  have L3 := hQ (show xh B N x g gb dk 1 L' (fun _ => []) (fun _ => []) w w3 (w.heap.size + 1) (w.heap.size + 1) from ⟨hg3, L1.out.ch.trans hc3, L1.out.le, ⟨_, _, _, X3.out, by decide⟩, ⟨_, _, _, X3.out, by decide⟩, by omega, by omega⟩)
  clear hg3 hc3
  obtain ⟨x0, x1, x2⟩ := kK X3.out
  have fx : ∀ i, w3.frozen? ⟨w.heap.size + 1, i, none⟩ = false := fun i => zh X3.out i
  go_wp2
  refine bodyPost_ret (v := .agg #[.bool true, .int .i64 0, .slice none 0 0]) ?_ rfl ⟨rfl, ?_⟩
  · simp [results, Tryz.results15, go_sem, hu61, x0, x1, x2]
  · have hfin : ∀ W : World, xh B N x g gb dk 1 L' (fun _ => []) (fun _ => []) w W (w.heap.size + 1) (w.heap.size + 1) → (∃ L', zQ W B N x g gb dk 1 L' (fun _ => []) (fun _ => [])) ∧ Ch TG (MS x) B w W := fun W hW => ⟨⟨_, hW.gt⟩, hW.ch⟩
    refine hfin _ ?_
    repeat (with_reducible first | exact L3.out | (refine xh.set ?_ (Or.inl rfl)))
theorem XO (w : World) (B N : Nat) (x : Ix) (g : Sg) (gb dk : Nat) (L : Nat → Nat → Nat) (h : zQ w B N x g gb dk 1 L (fun _ => []) (fun _ => [])) (hgb : B ≤ gb) (hdk : B ≤ dk) :
    Calls Tryz.prog 15 #[.pointer (some ⟨gb, 0, none⟩), .agg #[.int .i64 1, .int .i64 0, .int .i64 0, .slice none 0 0, .int .i64 0, .int .i64 0, .slice none 0 0]] w fun e w' => e = .returned (.agg #[.bool true, .int .i64 1, .slice none 0 0]) ∧ (∃ L', zQ w' B N x g gb dk 2 L' (fun _ => []) (fun _ => [])) ∧ Ch TG (MS x) B w w' := by
  have hu64 := Tryz.underlying64
  have hu61 := Tryz.underlying61
  have B1 := hQ (show Below w.heap.size w ((w.alloc (.cells #[.int .i64 1, .int .i64 0, .int .i64 0, .slice none 0 0, .int .i64 0, .int .i64 0, .slice none 0 0] 64)).alloc (.cells #[.bool false, .int .i64 0, .slice none 0 0] 61)) from ((Below.refl _ _).alloc (Nat.le_refl _) _).alloc (by simp) _)
  have Y1 := hQ (zg (zi w (.cells #[.int .i64 1, .int .i64 0, .int .i64 0, .slice none 0 0, .int .i64 0, .int .i64 0, .slice none 0 0] 64)) (.cells #[.bool false, .int .i64 0, .slice none 0 0] 61))
  have X1 := hQ (yx w (.cells #[.int .i64 1, .int .i64 0, .int .i64 0, .slice none 0 0, .int .i64 0, .int .i64 0, .slice none 0 0] 64) (.cells #[.bool false, .int .i64 0, .slice none 0 0] 61))
  have L1 := hQ (xh.mk' h B1.out X1.out X1.out (by omega) (by omega) (by decide) (by decide))
  have HI := Jv _ B N x g gb dk L L1.out.gt hgb hdk
  clear h
  obtain ⟨y0, y1, y2, y3, y4, y5, y6⟩ := Wp Y1.out
  go_enter Tryz.func15, Tryz.ntmps15
  go_wp2_with (fail)
  refine HI.mono ?_
  rintro e w3 ⟨rfl, ⟨L', hg3⟩, hc3⟩
  have X3 := hQ (hc3.cell X1.out (by decide))
  have L3 := hQ (show xh B N x g gb dk 2 L' (fun _ => []) (fun _ => []) w w3 (w.heap.size + 1) (w.heap.size + 1) from ⟨hg3, L1.out.ch.trans hc3, L1.out.le, ⟨_, _, _, X3.out, by decide⟩, ⟨_, _, _, X3.out, by decide⟩, by omega, by omega⟩)
  clear hg3 hc3
  obtain ⟨x0, x1, x2⟩ := kK X3.out
  have fx : ∀ i, w3.frozen? ⟨w.heap.size + 1, i, none⟩ = false := fun i => zh X3.out i
  go_wp2
  refine bodyPost_ret (v := .agg #[.bool true, .int .i64 1, .slice none 0 0]) ?_ rfl ⟨rfl, ?_⟩
  · simp [results, Tryz.results15, go_sem, hu61, x0, x1, x2]
  · have hfin : ∀ W : World, xh B N x g gb dk 2 L' (fun _ => []) (fun _ => []) w W (w.heap.size + 1) (w.heap.size + 1) → (∃ L', zQ W B N x g gb dk 2 L' (fun _ => []) (fun _ => [])) ∧ Ch TG (MS x) B w W := fun W hW => ⟨⟨_, hW.gt⟩, hW.ch⟩
    refine hfin _ ?_
    repeat (with_reducible first | exact L3.out | (refine xh.set ?_ (Or.inl rfl)))
theorem Wd (w : World) (B N : Nat) (x : Ix) (g : Sg) (gb dk : Nat) (L : Nat → Nat → Nat) (h : zQ w B N x g gb dk 2 L (fun _ => []) (fun _ => [])) (hgb : B ≤ gb) (hdk : B ≤ dk) :
    Calls Tryz.prog 15 #[.pointer (some ⟨gb, 0, none⟩), .agg #[.int .i64 1, .int .i64 0, .int .i64 0, .slice none 0 0, .int .i64 0, .int .i64 0, .slice none 0 0]] w fun e w' => e = .returned (.agg #[.bool true, .int .i64 2, .slice none 0 0]) ∧ (∃ L', zQ w' B N x g gb dk 3 L' (fun _ => []) (fun _ => [])) ∧ Ch TG (MS x) B w w' := by
  have hu64 := Tryz.underlying64
  have hu61 := Tryz.underlying61
  have B1 := hQ (show Below w.heap.size w ((w.alloc (.cells #[.int .i64 1, .int .i64 0, .int .i64 0, .slice none 0 0, .int .i64 0, .int .i64 0, .slice none 0 0] 64)).alloc (.cells #[.bool false, .int .i64 0, .slice none 0 0] 61)) from ((Below.refl _ _).alloc (Nat.le_refl _) _).alloc (by simp) _)
  have Y1 := hQ (zg (zi w (.cells #[.int .i64 1, .int .i64 0, .int .i64 0, .slice none 0 0, .int .i64 0, .int .i64 0, .slice none 0 0] 64)) (.cells #[.bool false, .int .i64 0, .slice none 0 0] 61))
  have X1 := hQ (yx w (.cells #[.int .i64 1, .int .i64 0, .int .i64 0, .slice none 0 0, .int .i64 0, .int .i64 0, .slice none 0 0] 64) (.cells #[.bool false, .int .i64 0, .slice none 0 0] 61))
  have L1 := hQ (xh.mk' h B1.out X1.out X1.out (by omega) (by omega) (by decide) (by decide))
  have HI := JK _ B N x g gb dk L L1.out.gt hgb hdk
  clear h
  obtain ⟨y0, y1, y2, y3, y4, y5, y6⟩ := Wp Y1.out
  go_enter Tryz.func15, Tryz.ntmps15
  go_wp2_with (fail)
  refine HI.mono ?_
  rintro e w3 ⟨rfl, ⟨L', hg3⟩, hc3⟩
  have X3 := hQ (hc3.cell X1.out (by decide))
  have L3 := hQ (show xh B N x g gb dk 3 L' (fun _ => []) (fun _ => []) w w3 (w.heap.size + 1) (w.heap.size + 1) from ⟨hg3, L1.out.ch.trans hc3, L1.out.le, ⟨_, _, _, X3.out, by decide⟩, ⟨_, _, _, X3.out, by decide⟩, by omega, by omega⟩)
  clear hg3 hc3
  obtain ⟨x0, x1, x2⟩ := kK X3.out
  have fx : ∀ i, w3.frozen? ⟨w.heap.size + 1, i, none⟩ = false := fun i => zh X3.out i
  go_wp2
  refine bodyPost_ret (v := .agg #[.bool true, .int .i64 2, .slice none 0 0]) ?_ rfl ⟨rfl, ?_⟩
  · simp [results, Tryz.results15, go_sem, hu61, x0, x1, x2]
  · have hfin : ∀ W : World, xh B N x g gb dk 3 L' (fun _ => []) (fun _ => []) w W (w.heap.size + 1) (w.heap.size + 1) → (∃ L', zQ W B N x g gb dk 3 L' (fun _ => []) (fun _ => [])) ∧ Ch TG (MS x) B w W := fun W hW => ⟨⟨_, hW.gt⟩, hW.ch⟩
    refine hfin _ ?_
    repeat (with_reducible first | exact L3.out | (refine xh.set ?_ (Or.inl rfl)))
end Go.Proofs.YtlalbohhopmpdaaGreat.Top
namespace Go.Proofs.YtlalbohhopmpdaaGreat.PTop
open Go.RowKit Go.YW.PrintWords Go.YW.PrintLast Go.YW.PrintMore
attribute [local go_sem] yU yT xE xC xe yZ xJ xK zm zu   -- for this text's walks alone
def kT (id : Int) : List S84 → Nat → Int
 | [], _ => -1
 | x :: l, i => if x.f0 = id then (i : Int) else kT id l (i + 1)
def kQ.f (l0 : List S84) (a1 : Int) : Option Int := some (kT a1 l0 0)
theorem Jq (x : S84) (g : Nat) (id : Int) (w : World) (hg : w.cell? ⟨g, 0, none⟩ = some (.int .i64 id)) (hl : g < w.heap.size) :
  Calls Tryz.prog 129 #[.agg #[.int .i64 x.f0, .string x.f1], .pointer (some ⟨g, 0, none⟩)] w fun e w' => e = .returned (.bool (x.f0 == id)) ∧ Below w.heap.size w w' := by
 have hu84 := Tryz.underlying84
 have hg2 : (w.alloc (.cells #[.int .i64 x.f0, .string x.f1] 84)).cell? ⟨g, 0, none⟩ = some (.int .i64 id) := by rw [World.cell?_alloc_past _ _ _ hl]; exact hg
 go_enter Tryz.func129, Tryz.ntmps129
 go_wp2_with (fail)
 go_ret
 exact ⟨rfl, (Below.refl _ _).alloc (Nat.le_refl _) _⟩
theorem QS (A0 : Option Addr) (c0 : Nat) (l0 : List S84) (g : Nat) (id : Int) (w : World) (hr0 : Kd.C k84 w A0 l0.length l0) (hc0 : l0.length ≤ c0) (hg : w.cell? ⟨g, 0, none⟩ = some (.int .i64 id)) (hl : g < w.heap.size) :
  Calls Tryz.prog 128 #[.slice A0 l0.length c0, .func (.func 129) #[] #[.pointer (some ⟨g, 0, none⟩)]] w fun e w' => e = .returned (.int .i64 (kT id l0 0)) ∧ Below w.heap.size w w' := by
 have hu84 := Tryz.underlying84
 have HR := zf.mk hr0
 have HG := zf.mk hg
 clear hr0 hg
 have hm : l0.length ≤ 9223372036854775807 := by
  have := HR.out.2.1
  omega
 go_enter Tryz.func128, Tryz.ntmps128
 go_wp2
 go_loopg [8] l0.length (fun g_ v8 wx => ∃ j : Int, 0 ≤ j ∧ j + (g_ : Int) = (l0.length : Int) ∧ v8 = .int .i64 j ∧ zf (kT id (l0.drop j.toNat) j.toNat = kT id l0 0) ∧ Below w.heap.size w wx)
 case atStart => exact ⟨0, by omega, by omega, rfl, ⟨rfl⟩, Below.refl _ _⟩
 case round =>
  obtain ⟨j, hj0, hj, rfl, HP, hb⟩ := hrel
  cases gk with
  | zero =>
   have hd : decide (j < (l0.length : Int)) = false := decide_eq_false (by omega)
   have hP := HP.out
   rw [List.drop_eq_nil_of_le (by omega)] at hP
   go_wp2
   go_ret
   exact ⟨by rw [← hP]; rfl, hb⟩
  | succ g1 =>
   have hil : j.toNat < l0.length := by omega
   have hd : decide (j < (l0.length : Int)) = true := decide_eq_true (by omega)
   have hdrop : l0.drop j.toNat = xS l0 j :: l0.drop (j.toNat + 1) := by
    rw [List.drop_eq_getElem_cons hil]
    unfold xS
    rw [List.getD_eq_getElem?_getD, List.getElem?_eq_getElem hil, Option.getD_some]
   have HG2 := (hb.cell (World.block_lt_of_cell? _ _ HG.out)).trans HG.out
   obtain ⟨ad, e, hx0, hx1⟩ := XY (Kd.zz HR.out hb) j (by omega) (by omega)
   cases e
   have p0 : (0 ≤ j) = True := eq_true (by omega)
   have q0 : (j < (l0.length : Int)) = True := eq_true (by omega)
   have hP := HP.out
   rw [hdrop] at hP
   generalize xS l0 j = x at hx0 hx1 hP
   have HP2 := zf.mk hP
   have HB := zf.mk hb
   have HD := zf.mk hdrop
   have hgl : g < wr.heap.size := Nat.lt_of_lt_of_le hl hb.size
   clear hP HP hb hdrop
   by_cases hx : x.f0 = id
   ·
    have hxb : (x.f0 == id) = true := beq_iff_eq.mpr hx
    have HX := zf.mk hx
    clear hx
    go_wp2_with (go_at_call 129; refine (Jq x g id _ HG2 hgl).mono ?_; rintro e w2 ⟨rfl, hb2⟩; rw [hxb])
    go_ret
    exact ⟨by rw [← HP2.out, kT, if_pos HX.out, Int.toNat_of_nonneg hj0]; rfl, HB.out.trans (hb2.mono HB.out.size)⟩
   ·
    have hxb : (x.f0 == id) = false := beq_eq_false_iff_ne.mpr hx
    go_wp2_with (go_at_call 129; refine (Jq x g id _ HG2 hgl).mono ?_; rintro e w2 ⟨rfl, hb2⟩; rw [hxb])
    go_roundg g1
    case measure => omega
    case rel => exact ⟨j + 1, by omega, by omega, by first | rfl | (rw [show wrap64 (j + 1) = j + 1 from by unfold wrap64; omega]), ⟨by rw [← HP2.out, kT, if_neg hx, show (j + 1).toNat = j.toNat + 1 by omega]⟩, HB.out.trans (hb2.mono HB.out.size)⟩
theorem kQ.calls (A0 : Option Addr) (c0 : Nat) (l0 : List S84) (a1 : Int) (r : Int) (w : World) (hr0 : Kd.C k84 w A0 l0.length l0) (hc0 : l0.length ≤ c0) (h : kQ.f l0 a1 = some r) :
  Calls Tryz.prog 97 #[.slice A0 l0.length c0, .int .i64 a1] w fun e w' => e = .returned (.int .i64 r) ∧ Below w.heap.size w w' := by
 obtain rfl := Option.some.inj h
 have HR := zf.mk hr0
 have hmf : ∀ (fn : Fn) (first cap : Array Value) (w : World), (Instr.makeFunc fn first cap).run Tryz.prog w = .ok (.func fn first cap) w := fun _ _ _ _ => rfl
 go_enter Tryz.func97, Tryz.ntmps97
 go_wp2_with (go_at_call 128; refine (QS A0 c0 l0 w.heap.size a1 _ (Kd.yF HR.out _) hc0 (by rw [World.cell?_alloc_at _ _ _ _ rfl]; rfl) (by simp)).mono ?_; rintro e w2 ⟨rfl, hb2⟩)
 go_ret
 exact ⟨rfl, ((Below.refl _ _).alloc (Nat.le_refl _) _).trans (hb2.mono (by simp))⟩
end Go.Proofs.YtlalbohhopmpdaaGreat.PTop
namespace Go.Proofs.YtlalbohhopmpdaaGreat.Top
open Go.RowKit Go.Proofs.YtlalbohhopmpdaaGreat.PTop Go.YW.PrintWords Go.YW.PrintLast Go.YW.PrintMore Go.Proofs.YtlalbohhopmpdaaGreat.Num
attribute [local go_sem] zm zu
theorem zdy {w : World} {g t : Nat} {v0 v1 : Value} (h : w.heap[g]? = some (.cells #[v0, v1] t (0, 0))) : w.cell? ⟨g, 0, none⟩ = some v0 ∧ w.cell? ⟨g, 1, none⟩ = some v1 := ⟨za h 0, za h 1⟩
theorem QK (w : World) (A : Option Addr) (c : Nat) (l : List S84) (hC : Kd.C k84 w A l.length l) (hc : l.length ≤ c) (hl : l.length ≤ 1000)
    (hI : ∀ j : Int, 0 ≤ j → j < l.length → 0 ≤ (xS l j).f0 ∧ (xS l j).f0 ≤ 255 ∧ (xS l j).f1.size ≤ 244 ∧ (0 < j → (xS l (j - 1)).f0 < (xS l j).f0)) (hP : ∀ j : Int, 0 ≤ j → j < 3 → ∃ r, kQ.f l j = some r ∧ 0 ≤ r) :
    Calls Tryz.prog 51 #[.slice A l.length c] w fun e w' => e = .returned (.int .i64 0) ∧ Below w.heap.size w w' := by
  have hu84 := Tryz.underlying84
  have hu28 := Tryz.underlying28
  have HC := hQ hC
  have HCC := hQ hc
  have HL := hQ hl
  have HI := hQ hI
  have HP := hQ hP
  clear hC hc hl hI hP
  go_enter Tryz.func51, Tryz.ntmps51
  go_wp2_with (fail)
  go_loopg [10] l.length (fun g_ v10 wx => ∃ j : Int, 0 ≤ j ∧ (g_ : Int) = l.length - j ∧ v10 = .int .i64 j ∧ zf (Below w.heap.size w wx))
  case atStart => exact ⟨0, by omega, by omega, rfl, ⟨Below.refl _ _⟩⟩
  case round =>
    obtain ⟨j, hj0, hg, rfl, HB⟩ := hrel
    by_cases he : j < (l.length : Int)
    · have hd : decide (j < (l.length : Int)) = true := dT he
      have HE := hQ (show 0 ≤ j ∧ j < (l.length : Int) ∧ (gk : Int) = l.length - j from ⟨hj0, he, hg⟩)
      obtain ⟨i0, i1, i2, i3⟩ := HI.out j hj0 he
      obtain ⟨ad, e, hx0, hx1⟩ := XY (Kd.zz HC.out HB.out) j hj0 he
      cases e
      have p0 : (0 ≤ j) = True := eq_true hj0
      have q0 : (j < (l.length : Int)) = True := eq_true he
      have hw : wrap64 (j - 1) = j - 1 := zA (by have := HL.out; omega) (by have := HL.out; omega)
      have hw1 : wrap64 (j + 1) = j + 1 := zA (by have := HL.out; omega) (by have := HL.out; omega)
      have hb1 : Below wr.heap.size wr (wr.alloc (.cells #[.int .i64 (xS l j).f0, .string (xS l j).f1] 84)) := (Below.refl _ _).alloc (Nat.le_refl _) _
      have B1 := hQ (ze HB.out HB.out.size hb1)
      obtain ⟨s0, s1⟩ := zdy (zi wr (.cells #[.int .i64 (xS l j).f0, .string (xS l j).f1] 84 (0, 0)))
      have d1 : decide ((xS l j).f0 < 0) = false := decide_eq_false (by omega)
      have d2 : decide ((xS l j).f0 > 255) = false := decide_eq_false (by omega)
      by_cases hz : 0 < j
      · have hd2 : decide (j > 0) = true := dT hz
        have pz : (1 ≤ j) = True := eq_true (by omega)
        have qz : (j - 1 < (l.length : Int)) = True := eq_true (by omega)
        have d3 : decide ((xS l j).f0 ≤ (xS l (j - 1)).f0) = false := decide_eq_false (by have := i3 hz; omega)
        obtain ⟨ad2, e, hy0, hy1⟩ := XY (Kd.zz HC.out B1.out) (j - 1) (by omega) (by omega)
        cases e
        rw [show (j - 1).toNat = j.toNat - 1 by omega] at hy0 hy1
        clear i0 i1 i2 i3 he hz hj0 hg hb1
        go_wp2_with (fail)
        go_region
        go_wp2
        go_roundg (l.length - (j + 1)).toNat
        case measure => have := HE.out; omega
        case rel => have := HE.out; exact ⟨j + 1, by omega, by omega, by first | rfl | rw [hw1], ⟨B1.out.trans (by first | exact zk (Below.refl _ _) | exact zt (Below.refl _ _) _)⟩⟩
      · have hd2 : decide (j > 0) = false := dF hz
        clear i0 i1 i2 i3 he hz hj0 hg hb1
        go_wp2_with (fail)
        go_region
        go_wp2
        go_roundg (l.length - (j + 1)).toNat
        case measure => have := HE.out; omega
        case rel => have := HE.out; exact ⟨j + 1, by omega, by omega, by first | rfl | rw [hw1], ⟨B1.out.trans (by first | exact zk (Below.refl _ _) | exact zt (Below.refl _ _) _)⟩⟩
    · have hd : decide (j < (l.length : Int)) = false := dF he
      have HB0 := hQ HB.out
      clear he hj0 hg
      go_wp2_with (fail)
      go_loopg [41] l.length (fun g_ v10 wx => ∃ j : Int, 0 ≤ j ∧ (g_ : Int) = l.length - j ∧ v10 = .int .i64 j ∧ zf (Below w.heap.size w wx))
      case atStart => exact ⟨0, by omega, by omega, rfl, ⟨HB0.out⟩⟩
      case round =>
        obtain ⟨j, hj0, hg, rfl, HB⟩ := hrel
        by_cases he : j < (l.length : Int)
        · have hd : decide (j < (l.length : Int)) = true := dT he
          have HE := hQ (show 0 ≤ j ∧ j < (l.length : Int) ∧ (gk : Int) = l.length - j from ⟨hj0, he, hg⟩)
          obtain ⟨i0, i1, i2, i3⟩ := HI.out j hj0 he
          obtain ⟨ad, e, hx0, hx1⟩ := XY (Kd.zz HC.out HB.out) j hj0 he
          cases e
          have p0 : (0 ≤ j) = True := eq_true hj0
          have q0 : (j < (l.length : Int)) = True := eq_true he
          have hw1 : wrap64 (j + 1) = j + 1 := zA (by have := HL.out; omega) (by have := HL.out; omega)
          have B1 := hQ (ze HB.out HB.out.size (show Below wr.heap.size wr (wr.alloc (.cells #[.int .i64 (xS l j).f0, .string (xS l j).f1] 84)) from (Below.refl _ _).alloc (Nat.le_refl _) _))
          obtain ⟨s0, s1⟩ := zdy (zi wr (.cells #[.int .i64 (xS l j).f0, .string (xS l j).f1] 84 (0, 0)))
          have d1 : decide (((xS l j).f1.size : Int) > 244) = false := decide_eq_false (by omega)
          clear i0 i1 i2 i3 he hj0 hg
          go_wp2
          go_roundg (l.length - (j + 1)).toNat
          case measure => have := HE.out; omega
          case rel => have := HE.out; exact ⟨j + 1, by omega, by omega, by first | rfl | rw [hw1], ⟨B1.out⟩⟩
        · have hd : decide (j < (l.length : Int)) = false := dF he
          have HB1 := hQ HB.out
          clear he hj0 hg
          go_wp2_with (fail)
          go_loopg [50] 3 (fun g_ v10 wx => ∃ j : Int, 0 ≤ j ∧ (g_ : Int) = 3 - j ∧ v10 = .int .i64 j ∧ zf (Below w.heap.size w wx))
          case atStart => exact ⟨0, by omega, by omega, rfl, ⟨HB1.out⟩⟩
          case round =>
            obtain ⟨j, hj0, hg, rfl, HB⟩ := hrel
            by_cases he : j < 3
            · have hd : decide (j < 3) = true := dT he
              have HE := hQ (show 0 ≤ j ∧ j < 3 ∧ (gk : Int) = 3 - j from ⟨hj0, he, hg⟩)
              obtain ⟨r, hr, h0⟩ := HP.out j hj0 he
              have hw1 : wrap64 (j + 1) = j + 1 := zA (by omega) (by omega)
              have d1 : decide (r < 0) = false := decide_eq_false (by omega)
              have HR := hQ hr
              clear he hj0 hg hr h0
              go_wp2_with (fail)
              refine (kQ.calls A c l j r _ (Kd.zz HC.out HB.out) HCC.out HR.out).mono ?_
              rintro e w2 ⟨rfl, hb⟩
              have B2 := hQ (ze HB.out HB.out.size hb)
              clear hb
              go_wp2
              go_roundg (3 - (j + 1)).toNat
              case measure => have := HE.out; omega
              case rel => have := HE.out; exact ⟨j + 1, by omega, by omega, by first | rfl | rw [hw1], ⟨B2.out⟩⟩
            · have hd : decide (j < 3) = false := dF he
              clear he hj0 hg
              go_wp2
              exact bodyPost_ret (v := .int .i64 0) (by simp [results, Tryz.results51, go_sem]) rfl ⟨rfl, HB.out⟩
theorem Kq (w : World) (A : Option Addr) (c : Nat) (hC : Kd.C k84 w A 3 ql) (hc : 3 ≤ c) : Calls Tryz.prog 51 #[.slice A 3 c] w fun e w' => e = .returned (.int .i64 0) ∧ Below w.heap.size w w' := by
  have h3 : ∀ j : Int, 0 ≤ j → j < 3 → j = 0 ∨ j = 1 ∨ j = 2 := fun j h0 h1 => by omega
  refine QK w A c ql hC hc (by decide) (fun j h0 h1 => ?_) (fun j h0 h1 => ?_)
  · rcases h3 j h0 h1 with rfl | rfl | rfl <;> decide +kernel
  · rcases h3 j h0 h1 with rfl | rfl | rfl
    · exact ⟨0, by decide +kernel, by decide⟩
    · exact ⟨1, by decide +kernel, by decide⟩
    · exact ⟨2, by decide +kernel, by decide⟩
end Go.Proofs.YtlalbohhopmpdaaGreat.Top
namespace Go.Proofs.YtlalbohhopmpdaaGreat.PTop
open Go.RowKit Go.YW.PrintWords Go.YW.PrintLast Go.YW.PrintMore
attribute [local go_sem] yU yT xE xC xe yZ xJ xK zm zu   -- for this text's walks alone
def yO.f (l0 : List Int) (a1 : Int) : Option (Int) := if a1 < 0 then (some 0) else (if a1 ≥ (l0.length : Int) then (some 0) else (if 0 ≤ a1 then (if a1 < (l0.length : Int) then (some (rd l0 a1)) else (none)) else (none)))
theorem yO.calls (A0 : Option Addr) (c0 : Nat) (l0 : List Int) (a1 : Int) (r : Int) (w : World) (hr0 : Kd.C (Kd.int .i64) w A0 l0.length l0) (hc0 : l0.length ≤ c0) (h : yO.f l0 a1 = some r) :
  Calls Tryz.prog 41 #[.slice A0 l0.length c0, .int .i64 a1] w fun e w' => e = .returned (.int .i64 r) ∧ zx w w' := by
 have HR0 := zf.mk hr0
 have HC0 := zf.mk hc0
 clear hr0 hc0
 have H : (if a1 < 0 then (some 0) else (if a1 ≥ (l0.length : Int) then (some 0) else (if 0 ≤ a1 then (if a1 < (l0.length : Int) then (some (rd l0 a1)) else (none)) else (none)))) = some r := h
 clear h
 by_cases c3 : a1 < 0
 ·
  rw [if_pos c3] at H
  have c3b0 : decide (a1 < 0) = true := dT c3
  clear c3
  obtain rfl := Option.some.inj H
  go_enter Tryz.func41, Tryz.ntmps41
  go_wp2
  go_ret
  exact ⟨by first | rfl | (simp; done) | (simp [*]; done), by repeat (first | exact zx.refl _ | apply zx.step)⟩
 ·
  rw [if_neg c3] at H
  have c3b0 : decide (a1 < 0) = false := dF c3
  clear c3
  by_cases c4 : a1 ≥ (l0.length : Int)
  ·
   rw [if_pos c4] at H
   have c4b0 : decide ((l0.length : Int) ≤ a1) = true := dT c4
   clear c4
   obtain rfl := Option.some.inj H
   go_enter Tryz.func41, Tryz.ntmps41
   go_wp2
   go_ret
   exact ⟨by first | rfl | (simp; done) | (simp [*]; done), by repeat (first | exact zx.refl _ | apply zx.step)⟩
  ·
   rw [if_neg c4] at H
   have c4b0 : decide ((l0.length : Int) ≤ a1) = false := dF c4
   clear c4
   by_cases c5 : 0 ≤ a1
   ·
    rw [if_pos c5] at H
    have c5b0 : decide (0 ≤ a1) = true := dT c5
    clear c5
    by_cases c6 : a1 < (l0.length : Int)
    ·
     rw [if_pos c6] at H
     have c6b0 : decide (a1 < (l0.length : Int)) = true := dT c6
     clear c6
     obtain rfl := Option.some.inj H
     have p556 : 0 ≤ (a1 : Int) := of_decide_eq_true (by first | (with_reducible assumption) | assumption)
     have q556 : a1 < (l0.length : Int) := of_decide_eq_true (by first | (with_reducible assumption) | assumption)
     obtain ⟨ad556, e556, hx556_0⟩ := Kd.kz HR0.out a1 p556 q556
     cases e556
     replace p556 := eq_true p556
     replace q556 := eq_true q556
     go_enter Tryz.func41, Tryz.ntmps41
     go_wp2
     go_ret
     exact ⟨by first | rfl | (simp; done) | (simp [*]; done), by repeat (first | exact zx.refl _ | apply zx.step)⟩
    ·
     rw [if_neg c6] at H
     exact absurd H (by simp)
   ·
    rw [if_neg c5] at H
    exact absurd H (by simp)
end Go.Proofs.YtlalbohhopmpdaaGreat.PTop
