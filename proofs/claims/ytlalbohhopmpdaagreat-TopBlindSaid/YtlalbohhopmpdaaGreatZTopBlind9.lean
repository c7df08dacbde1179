/- Words and walks for TopBlind (made of the session's own texts; each part by itself). -/
import Derived.Deep.DeepCutAuto
import Derived.Deep.DeepMust
import Derived.Deep.RegionLaw
import Derived.Laws.CopyOwn
import Derived.Test.YtlalbohhopmpdaaGreatZTopBlind8
set_option maxRecDepth 100000
set_option maxHeartbeats 8000000
set_option linter.unusedVariables false
set_option linter.unusedSimpArgs false
namespace Go.Proofs.YtlalbohhopmpdaaGreat.Top
open Go.RowKit Go.Proofs.YtlalbohhopmpdaaGreat.PTop Go.YW.PrintWords Go.YW.PrintLast Go.YW.PrintMore Go.Proofs.YtlalbohhopmpdaaGreat.Num
attribute [local go_sem] zk zo
def ZM (ch : Int × Int → List xU) (q : Int) (x : yg) : Int × Int → List xU := fun k => if k = kOf x then ch (kOf x) ++ [⟨q, x.f1⟩] else ch k
def qG (ch : Int × Int → List xU) (q : Int) (l : List yg) : Int × Int → List xU := l.foldl (fun c x => ZM c q x) ch
theorem zdK {w : World} {g : Nat} {q v : Int} (h : w.heap[g]? = some (.cells #[.int .u64 q, .int .u16 v] 210 (0, 0))) : Kd.C vo w (some ⟨g, 0, none⟩) 1 [⟨q, v⟩] := by
  refine ⟨rfl, by decide, fun _ => ⟨⟨g, 0, none⟩, rfl, fun j p hj => ?_⟩⟩
  obtain ⟨hl, hp⟩ := List.getElem?_eq_some_iff.1 hj
  have hj0 : j = 0 := by simp at hl; omega
  subst hj0
  have hp' : (⟨q, v⟩ : xU) = p := hp
  subst hp'
  refine ⟨[.int .u64 q, .int .u16 v], rfl, zcq w ⟨q, v⟩, fun i u hu => ?_⟩
  have h0 := za h 0
  have h1 := za h 1
  match i, hu with
  | 0, hu =>
    obtain rfl := Option.some.inj hu
    exact h0
  | 1, hu =>
    obtain rfl := Option.some.inj hu
    exact h1
  | i + 2, hu => cases hu
theorem zbE : (Tryz.prog.info? 210).map (fun i => (i.zero, i.size, i.bytes)) = some (some (.agg #[(.int .u64 0), (.int .u16 0)]), 2, 16) := by kernel_rfl
theorem zdG {w w1 : World} {m : Nat} {α : Type} {d : Kd α} {xs : List α} {v : Value} {e base : Nat} (hm : ∃ es c, w.heap[m]? = some (.map es c)) (hg : w.grownBy w1 (some m)) (hr : Kd.R d e w base (fun _ => True) v xs) : Kd.R d e w1 base (fun _ => True) v xs := by
  refine Kd.yX (Kd.Yl (Kd.xZ hr) (fun b hb => ?_)) (fun _ _ => trivial)
  obtain ⟨_, _, hlt, q, hq, cells, hc⟩ := hb
  refine hg.block b hlt (fun e => ?_)
  obtain ⟨es, c, e2⟩ := hm
  injection e with e
  rw [e, e2] at hc
  cases hc
theorem ZW {w : World} {B : Nat} {ok : Nat → Prop} {α : Type} {d : Kd α} {e : Nat} {v : Value} {xs : List α} (h : Kd.R d e w B ok v xs) : ∀ g, v.ownBlock = some g → B ≤ g ∧ ∃ cs, w.heap[g]? = some (.cells cs e (0, 0)) := fun g hg => by
  obtain ⟨inner, ho⟩ := Kd.Vt h
  exact ⟨Kd.kg h g hg, vN ho g hg⟩
theorem zaC {w : World} {B m : Nat} {ok : Nat → Prop} {α : Type} {d : Kd α} {e : Nat} {v : Value} {xs : List α} (hm : ∃ es c, w.heap[m]? = some (.map es c)) (h : Kd.R d e w B ok v xs) : some m ≠ v.ownBlock := fun e => by
  obtain ⟨_, cs, hc⟩ := ZW h m e.symm
  obtain ⟨es, c, e2⟩ := hm
  rw [e2] at hc
  cases hc
theorem Zg.append {w w1 w3 w4 : World} {B m : Nat} {F : Int × Int → Option Value} {ch : Int × Int → List xU} (h : Zg w B F ch) (hm : ∃ es c, w.heap[m]? = some (.map es c)) (k : Int × Int) (v1 : Value) (p : xU) (h1 : w.grownBy w1 (some m))
    (ho : Kd.R vo 210 w3 B (fun _ => True) v1 (ch k ++ [p])) (h2 : w1.grownBy w3 ((F k).getD (.slice none 0 0)).ownBlock) (hat : v1.ownBlock = ((F k).getD (.slice none 0 0)).ownBlock ∨ ∃ b, v1.ownBlock = some b ∧ w1.heap.size ≤ b) (h3 : w3.grownBy w4 (some m)) (hm3 : ∃ es c, w3.heap[m]? = some (.map es c)) :
    Zg w4 B (fun y => if y = k then some v1 else F y) (fun y => if y = k then ch k ++ [p] else ch y) := by
  have hmne : ∀ {W : World} {α : Type} {d : Kd α} {xs : List α} {v : Value} {e base : Nat} {ok : Nat → Prop}, (∃ es c, W.heap[m]? = some (.map es c)) → Kd.R d e W base ok v xs → Kd.R d e W base (fun b => ok b ∧ b ≠ m) v xs := fun hW hr => by
    refine Kd.yX (Kd.xZ hr) (fun b hb => ⟨hb.1, fun e => ?_⟩)
    obtain ⟨_, _, _, q, hq, cells, hc⟩ := hb
    obtain ⟨es, c, e2⟩ := hW
    rw [e, e2] at hc
    cases hc
  have hkeep : ∀ k' v', k' ≠ k → F k' = some v' → Kd.R vo 210 w4 B (fun _ => True) v' (ch k') := fun k' v' hk hv => by
    have r0 := hmne hm (h.2.1 k' v' hv)
    have r1 := Kd.YM r0 h1 (fun b hb e => hb.2 (by injection e))
    -- apart from the row that was appended to
    have hap : ∀ b, v'.ownBlock = some b → some b ≠ ((F k).getD (.slice none 0 0)).ownBlock := fun b hb e => by
      cases hFk : F k with
      | none =>
        rw [hFk] at e
        simp [Value.ownBlock] at e
      | some v =>
        rw [hFk] at e
        exact h.2.2 k k' v v' (fun e => hk e.symm) hFk hv b e.symm hb
    have r2 : Kd.R vo 210 w3 B (fun b => True ∧ b ≠ m) v' (ch k') := by
      have r1' : Kd.R vo 210 w1 B (fun b => (True ∧ b ≠ m) ∧ some b ≠ ((F k).getD (.slice none 0 0)).ownBlock) v' (ch k') := Kd.R_flat (fun hq => by
        rw [Kl hq]
        exact Jh _ _ _ _) r1 (fun b hb hok => ⟨hok, hap b hb⟩)
      exact Kd.zc5 (Kd.YM r1' h2 (fun b hb => hb.2))
    exact Kd.yX (Kd.YM r2 h3 (fun b hb e => hb.2 (by injection e))) (fun _ _ => trivial)
  refine ⟨fun y hy => ?_, fun y v' hv => ?_, fun y y' v v' hne hv hv' b hb hb' => ?_⟩
  · dsimp only at hy ⊢
    by_cases hyk : y = k
    · rw [if_pos hyk] at hy
      cases hy
    · rw [if_neg hyk] at hy ⊢
      exact h.1 y hy
  · dsimp only at hv ⊢
    by_cases hyk : y = k
    · rw [if_pos hyk] at hv ⊢
      obtain rfl := Option.some.inj hv
      have r0 := hmne hm3 ho
      exact Kd.yX (Kd.YM r0 h3 (fun b hb e => hb.2 (by injection e))) (fun _ _ => trivial)
    · rw [if_neg hyk] at hv ⊢
      exact hkeep y v' hyk hv
  · dsimp only at hv hv'
    have key : ∀ z vz, z ≠ k → F z = some vz → ∀ b, v1.ownBlock = some b → vz.ownBlock ≠ some b := fun z vz hz hvz b hb hb' => by
      rcases hat with e | ⟨b', e, hlt⟩
      · rw [hb] at e
        cases hFk : F k with
        | none =>
          rw [hFk] at e
          simp [Value.ownBlock] at e
        | some v =>
          rw [hFk] at e
          exact h.2.2 k z v vz (fun e => hz e.symm) hFk hvz b e.symm hb'
      · rw [hb] at e
        injection e with e
        have := Kd.Xb (h.2.1 z vz hvz) b hb'
        have := h1.size
        omega
    by_cases hyk : y = k
    · rw [if_pos hyk] at hv
      obtain rfl := Option.some.inj hv
      have hy' : y' ≠ k := fun e => hne (hyk.trans e.symm)
      rw [if_neg hy'] at hv'
      exact key y' v' hy' hv' b hb hb'
    · rw [if_neg hyk] at hv
      by_cases hyk' : y' = k
      · rw [if_pos hyk'] at hv'
        obtain rfl := Option.some.inj hv'
        exact key y v hyk hv b hb' hb
      · rw [if_neg hyk'] at hv'
        exact h.2.2 y y' v v' hne hv hv' b hb hb'
def SS.inst (s : SS) (l : List yg) : SS := ⟨s.last + 1, s.n + l.length, s.most, qG s.ch (s.last + 1) l⟩
theorem QY (ch : Int × Int → List xU) (q : Int) (l : List yg) (x : yg) : qG ch q (l ++ [x]) = ZM (qG ch q l) q x := by
  unfold qG
  rw [List.foldl_append]
  rfl
theorem Xa (q : Int) (k : Int × Int) : ∀ (l : List yg) (ch : Int × Int → List xU), (qG ch q l k).length ≤ (ch k).length + l.length
  | [], ch => by simp [qG]
  | x :: l, ch => by
    have h := Xa q k l (ZM ch q x)
    have h2 : (ZM ch q x k).length ≤ (ch k).length + 1 := by
      unfold ZM
      split
      · rename_i h3
        rw [h3]
        simp
      · omega
    show (qG (ZM ch q x) q l k).length ≤ _
    simp only [List.length_cons]
    omega
theorem xg.bump {w : World} {B N st mst : Nat} {s : SS} (h : xg w B N st mst s) (q n : Int) : xg (((w.setCell ⟨st, 0, none⟩ (.int .u64 q)).setCell ⟨st, 1, none⟩ (.int .i64 n)).drew) B N st mst ⟨q, n, s.most, s.ch⟩ ∧ Ch [118, 210] [mst] B w (((w.setCell ⟨st, 0, none⟩ (.int .u64 q)).setCell ⟨st, 1, none⟩ (.int .i64 n)).drew) := by
  have b1 := blk_set h.blk 0 (.int .u64 q)
  have b2 := blk_set b1 1 (.int .i64 n)
  have hc1 : Ch [118] [] B w (w.setCell ⟨st, 0, none⟩ (.int .u64 q)) := Ch.set h.blk (by simp) h.base.1 (fun m hm => by cases hm) _
  have hc2 : Ch [118] [] B (w.setCell ⟨st, 0, none⟩ (.int .u64 q)) ((w.setCell ⟨st, 0, none⟩ (.int .u64 q)).setCell ⟨st, 1, none⟩ (.int .i64 n)) := Ch.set b1 (by simp) h.base.1 (fun m hm => by cases hm) _
  have hc3 : Ch [118] [] B ((w.setCell ⟨st, 0, none⟩ (.int .u64 q)).setCell ⟨st, 1, none⟩ (.int .i64 n)) (((w.setCell ⟨st, 0, none⟩ (.int .u64 q)).setCell ⟨st, 1, none⟩ (.int .i64 n)).drew) := Ch.of_below (zl (Below.refl _ _)) (by have := h.lt; simpa [World.setCell] using this) (fun m hm => by cases hm)
  have hc := (hc1.trans hc2).trans hc3
  obtain ⟨c, F, m1, m2⟩ := h.map
  refine ⟨⟨b2, ⟨c, F, m1.ch hc (by simp), m2.ch hc (by decide)⟩, h.base⟩, hc.mono (by decide) (by simp) (qQ h.mapb)⟩
theorem za1 {x : Int} (h : 0 ≤ x ∧ x < 1000000000) : IntKind.u64.wrap x = x := by
  have e : (2 : Int) ^ 64 = 18446744073709551616 := by decide
  simp only [IntKind.wrap, IntKind.bits, IntKind.signed, Bool.false_and, Bool.false_eq_true, if_false, e]
  omega
theorem Zj (w : World) (B N st mst b0 : Nat) (s : SS) (h : xg w B N st mst s) (hs : kG s.ch) (A : Option Addr) (c : Nat) (l : List yg) (hR : Kd.R xL 208 w b0 (fun _ => True) (.slice A l.length c) l) (ho : qD l) (hl : 0 < l.length ∧ l.length ≤ 1000) (hN : N + 1000 < maxLen) (hlast : 0 ≤ s.last ∧ s.last < 1000000) (hfull : 0 ≤ s.n ∧ s.n + l.length ≤ s.most ∧ s.most ≤ 1000000) :
    Calls Tryz.prog 76 #[.pointer (some ⟨st, 0, none⟩), .slice A l.length c] w fun e w' => e = .returned (.tuple #[.int .u64 (s.last + 1), .int .i64 0]) ∧ xg w' B (N + l.length) st mst (s.inst l) ∧ Ch [118, 210] [mst] B w w' := by
  have hu118 := Tryz.underlying118
  have hu155 := Tryz.underlying155
  have hu208 := Tryz.underlying208
  have hu158 := Tryz.underlying158
  have HH := hQ h
  have HS := hQ hs
  have HR := hQ hR
  have HO := hQ ho
  have HL := hQ hl
  have HN := hQ hN
  have HLA := hQ hlast
  have HFU := hQ hfull
  have hC := (Kd.zB hR).2
  have HC := hQ hC
  clear h hs hR ho hl hN hlast hfull hC
  go_enter Tryz.func76, Tryz.ntmps76
  go_wp2_with (fail)
  refine (zcX w A c l HC.out.2 HC.out.1 (by have := HL.out; omega) HO.out).mono ?_
  rintro e w1 ⟨rfl, hb⟩
  rw [dT HL.out.1]
  have H1 := hQ (HH.out.below hb)
  have C1 := hQ (Ch.of_below (T := [118, 210]) (M := [mst]) hb HH.out.lt (qQ HH.out.mapb))
  obtain ⟨c0, c1, c2, c3⟩ := H1.out.cells
  have f0 := zh H1.out.blk 0
  have f1 := zh H1.out.blk 1
  clear hb
  have d0 : (s.last == 18446744073709551615) = false := by have := HLA.out; simp; omega
  have d1 : decide ((l.length : Int) > s.most - s.n) = false := by have := HFU.out; simp; omega
  have hw : wrap64 (s.most - s.n) = s.most - s.n := by have := HFU.out; exact zu (by omega) (by omega)
  go_wp2_with (fail)
  go_region
  go_wp2_with (fail)
  rw [za1 (x := s.last + 1) (by have := HLA.out; omega), zu (x := s.n + (l.length : Int)) (by have := HFU.out; omega) (by have := HFU.out; have := HL.out; omega)]
  have HB := hQ (H1.out.bump (s.last + 1) (s.n + l.length))
  have C5 := hQ (C1.out.trans HB.out.2)
  generalize ((w1.setCell ⟨st, 0, none⟩ (.int .u64 (s.last + 1))).setCell ⟨st, 1, none⟩ (.int .i64 (s.n + l.length))).drew = W5 at *
  clear c0 c1 c2 c3 f0 f1 d0 d1 hw H1 C1
  go_loopg [49] l.length (fun g_ v49 wx => ∃ j : Int, 0 ≤ j ∧ j + (g_ : Int) = (l.length : Int) ∧ v49 = .int .i64 j ∧ ze (xg wx B (N + j.toNat) st mst ⟨s.last + 1, s.n + l.length, s.most, qG s.ch (s.last + 1) (l.take j.toNat)⟩) ∧ ze (Ch [118, 210] [mst] B w wx))
  case atStart => exact ⟨0, by omega, by omega, rfl, ⟨HB.out.1⟩, ⟨C5.out⟩⟩
  case round =>
    obtain ⟨j, hj0, hj, rfl, HS5, HC5⟩ := hrel
    cases gk with
    | zero =>
      have hd : decide (j < (l.length : Int)) = false := decide_eq_false (by omega)
      obtain ⟨c0, c1, c2, c3⟩ := HS5.out.cells
      have hjl : j.toNat = l.length := by omega
      have HE := HS5.out
      rw [hjl, List.take_of_length_le (Nat.le_refl _)] at HE
      have HF := hQ HE
      clear HE hjl
      go_wp2
      exact bodyPost_ret (v := .tuple #[.int .u64 (s.last + 1), .int .i64 0]) (by simp [results, Tryz.results76, go_sem]) rfl ⟨rfl, HF.out, HC5.out⟩
    | succ g1 =>
      have hil : j.toNat < l.length := by omega
      have hd : decide (j < (l.length : Int)) = true := decide_eq_true (by omega)
      obtain ⟨ad, e, hx0, hx1, hx2⟩ := kz (Kd.zB (HC5.out.R HR.out (by decide))).2.2 j (by omega) (by omega)
      cases e
      have p0 : (0 ≤ j) = True := eq_true (by omega)
      have q0 : (j < (l.length : Int)) = True := eq_true (by omega)
      have hxe : qy l j = l[j.toNat] := by rw [← Zd l j.toNat hil, Int.toNat_of_nonneg hj0]
      obtain ⟨x, hx⟩ : ∃ x, x = l[j.toNat] := ⟨_, rfl⟩
      rw [hxe, ← hx] at hx0 hx1 hx2
      have hok : qw x := hx ▸ HO.out.1 _ (List.getElem_mem hil)
      have HX := hQ (show l[j.toNat]? = some x by rw [List.getElem?_eq_getElem hil, hx])
      have HOK := hQ hok
      have HJ := hQ hj
      have HJ0 := hQ hj0
      have hb1 : Below wr.heap.size wr (wr.alloc (.cells #[.int .i64 x.f0.f0, .int .i64 x.f0.f1, .int .u16 x.f1] 208)) := (Below.refl _ _).alloc (Nat.le_refl _) _
      have hb2 : Below wr.heap.size wr (((wr.alloc (.cells #[.int .i64 x.f0.f0, .int .i64 x.f0.f1, .int .u16 x.f1] 208)).alloc (.cells #[.int .u64 (s.last + 1), .int .u16 x.f1] 210)).drew) := (hb1.alloc (by simp) _).trans (zl (Below.refl _ _))
      have HV := hQ (HS5.out.below hb2)
      have CV := hQ (HC5.out.trans (Ch.of_below hb2 HS5.out.lt (qQ HS5.out.mapb)))
      have XV := hQ (zb (zi (wr.alloc (.cells #[.int .i64 x.f0.f0, .int .i64 x.f0.f1, .int .u16 x.f1] 208)) (.cells #[.int .u64 (s.last + 1), .int .u16 x.f1] 210 (0, 0))) (zl (Below.refl _ _)))
      obtain ⟨c0, c1, c2, c3⟩ := (HS5.out.below hb1).cells
      obtain ⟨e0, e1, e2, e3⟩ := (HS5.out.below (hb1.alloc (by simp) (.cells #[.int .u64 (s.last + 1), .int .u16 x.f1] 210))).cells
      obtain ⟨n0, F, hm, hrows⟩ := HV.out.map
      obtain ⟨stp, w1, hrun, hg1, hmap1, hcont⟩ := hm.entry KE Tryz.underlying116 VO (by have := HN.out; have := HL.out; omega) (x := kOf x) (Qx x hok)
      have hr1 := hrows.get (kOf x)
      obtain ⟨Av, cv, ev⟩ := Kd.yc hr1
      have HR1 := hQ hr1
      rw [ev] at hrun
      have hr2 : (Instr.mapEntry 116 (.map (some mst)) (.agg #[.int .i64 x.f0.f0, .int .i64 x.f0.f1])).run Tryz.prog (((wr.alloc (.cells #[.int .i64 x.f0.f0, .int .i64 x.f0.f1, .int .u16 x.f1] 208)).alloc (.cells #[.int .u64 (s.last + 1), .int .u16 x.f1] 210)).drew) = .ok (.tuple #[.slice Av (qG s.ch (s.last + 1) (l.take j.toNat) (kOf x)).length cv, .int .i64 stp]) w1 := hrun
      have HROWS := hQ hrows
      have HG1 := hQ hg1
      have HM1 := hQ hmap1
      have HCONT := hQ hcont
      have HEV := hQ ev
      clear hb1 hb2 hm hrows hrun hg1 hmap1 hcont hr1 hx hxe hok hil hj hj0 ev
      have hrw := zdG HV.out.mapb HG1.out HR1.out
      rw [HEV.out] at hrw
      have HRW := hQ hrw
      clear hrw
      have XW := hQ ((HG1.out.block _ (zF XV.out) (fun e => by
        obtain ⟨es, k, e2⟩ := HV.out.mapb
        injection e with e
        exact QL XV.out e2 e)).trans XV.out)
      have HLEN := hQ (show (qG s.ch (s.last + 1) (l.take j.toNat) (kOf x)).length ≤ 1002000 by
        have h1 := Xa (s.last + 1) (kOf x) (l.take j.toNat) s.ch
        have h2 := (HS.out (kOf x)).2
        have h3 := HL.out
        have h4 : (l.take j.toNat).length ≤ l.length := by simp; omega
        omega)
      have HBW := hQ (show B ≤ w1.heap.size from Nat.le_trans HV.out.lt HG1.out.size)
      rw [show (wr.alloc (.cells #[.int .i64 x.f0.f0, .int .i64 x.f0.f1, .int .u16 x.f1] 208)).heap.size = wr.heap.size + 1 by simp] at XW
      go_wp2_with (fail)
      go_region_law (first | (refine Kd.qA vo (w0 := w1) B (by rfl) (.tmp 59) (.tmp 67) 159 210 (.agg #[(.int .u64 0), (.int .u16 0)]) 16 rfl Tryz.underlying159 zbE rfl (by decide) (by omega) (.slice Av (qG s.ch (s.last + 1) (l.take j.toNat) (kOf x)).length cv) (qG s.ch (s.last + 1) (l.take j.toNat) (kOf x)) [(⟨s.last + 1, x.f1⟩ : xU)] _ _ _ (fun _ => True) (fun _ => False) rfl rfl HRW.out (zdK XW.out) (fun (y : xU) (cs : List Value) (h : vo.K w1 y cs) => by rw [XI h]; exact Jh _ _ _ y) (fun _ h => h.elim) (fun _ _ => trivial) (Below.refl _ _) HBW.out (by have := HLEN.out; omega) ?_; intro v1 w3 ho hb hg hat; have hw3 := hg.block mst (by obtain ⟨es, k, e2⟩ := HM1.out; exact zF e2) (zaC HM1.out HRW.out); obtain ⟨w4, hrun4, hm4, hg4⟩ := HCONT.out w3 v1 hw3; have hr4 : (Instr.entryStore 116 (.map (some mst)) (.int .i64 stp) v1).run Tryz.prog w3 = .ok () w4 := hrun4; have HW3 := hQ (show ∃ es c, w3.heap[mst]? = some (.map es c) by obtain ⟨es, k, e2⟩ := HM1.out; exact ⟨es, k, hw3.trans e2⟩); have HRA := hQ (HROWS.out.append HV.out.mapb (kOf x) v1 ⟨s.last + 1, x.f1⟩ HG1.out ho (by rw [HEV.out]; exact hg) (by rw [HEV.out]; exact hat) hg4 HW3.out); have HM4 := hQ hm4; have C4 := hQ (((Ch.of_map (T := [210]) (B := B) HG1.out (by simp) HV.out.base.2 HV.out.lt (qQ HV.out.mapb)).trans (Ch.of_cells hg (fun g e => by obtain ⟨h1, cs, h2⟩ := ZW HRW.out g e; exact ⟨h1, cs, 210, _, h2, by simp⟩) HBW.out (qQ HM1.out))).trans (Ch.of_map hg4 (by simp) HV.out.base.2 (Nat.le_trans HBW.out hg.size) (qQ HW3.out))); clear hb hat hg hw3 hrun4 hm4 hg4 ho))
      all_goals
        go_wp2
        go_roundg g1
        case measure => have := HJ.out; omega
        case rel =>
          have hj := HJ.out
          have hj0 := HJ0.out
          have hl := HL.out
          have ht : l.take (j + 1).toNat = l.take j.toNat ++ [x] := by
            rw [show (j + 1).toNat = j.toNat + 1 by omega, List.take_add_one, HX.out]
            rfl
          refine ⟨j + 1, by omega, by omega, by first | rfl | (rw [show wrap64 (j + 1) = j + 1 from by unfold wrap64; omega]), ⟨⟨C4.out.cell HV.out.blk (by decide), ⟨_, _, HM4.out.mono (by omega), ?_⟩, HV.out.base⟩⟩, ⟨CV.out.trans (C4.out.mono (by decide) (by simp) (qQ HV.out.mapb))⟩⟩
          show Zg w4 B _ (qG s.ch (s.last + 1) (l.take (j + 1).toNat))
          rw [ht, QY]
          exact HRA.out
end Go.Proofs.YtlalbohhopmpdaaGreat.Top
