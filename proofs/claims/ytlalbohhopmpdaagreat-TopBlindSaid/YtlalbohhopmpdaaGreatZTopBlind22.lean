/- Words and walks for TopBlind (made of the session's own texts; each part by itself). -/
import Derived.Deep.DeepCutAuto
import Derived.Deep.DeepMust
import Derived.Deep.RegionLaw
import Derived.Test.YtlalbohhopmpdaaGreatZTopBlind21
set_option maxRecDepth 100000
set_option maxHeartbeats 8000000
set_option linter.unusedVariables false
set_option linter.unusedSimpArgs false
namespace Go.Proofs.YtlalbohhopmpdaaGreat.Top
open Go.Proofs.YtlalbohhopmpdaaGreat.Tiny
open Go.RowKit Go.Proofs.YtlalbohhopmpdaaGreat.PTop Go.YW.PrintWords Go.YW.PrintLast Go.YW.PrintMore Go.Proofs.YtlalbohhopmpdaaGreat.Num
open Go.Proofs.YtlalbohhopmpdaaGreat.Ring (yT yt xh qj)
open Go.Proofs.YtlalbohhopmpdaaGreat.LemHeadTop Go.Proofs.YtlalbohhopmpdaaGreat.LemAduTop
attribute [local go_sem] zk zo
theorem xD {w : World} {g t : Nat} {v0 v1 v2 : Value} (h : w.heap[g]? = some (.cells #[v0, v1, v2] t (0, 0))) : w.cell? ⟨g, 0, none⟩ = some v0 ∧ w.cell? ⟨g, 1, none⟩ = some v1 ∧ w.cell? ⟨g, 2, none⟩ = some v2 := ⟨za h 0, za h 1, za h 2⟩
def Ym (fn exc : Int) (lw : List Int) (ra rv nn : Int) (bl : List Int) : Prop := ∀ (w1 : World) (g0 c : Nat), Kd.C (Kd.int .u8) w1 (some ⟨g0, 0, none⟩) bl.length bl → bl.length ≤ c →
  Calls Tryz.prog 19 #[.slice (some ⟨g0, 0, none⟩) bl.length c, .int .i64 nn] w1 fun e w' => ∃ A k, e = .returned (.tuple #[yu fn exc (.slice A lw.length k) ra rv, .int .i64 0]) ∧ Kd.R (Kd.int .u16) 33 w' w1.heap.size (fun _ => True) (.slice A lw.length k) lw ∧ Below w1.heap.size w1 w'
structure XA (B N : Nat) (x : Ix) (g : Sg) (tb gb dk n : Nat) (L : Nat → Nat → Nat) (k : Int) (v : Value) (l : List Int) (w0 W : World) (b : Nat) : Prop where
  tk : xz W B N x g tb gb dk n L k
  ch : Ch TT (MS x) B w0 W
  le : B ≤ w0.heap.size
  r : Kd.R (Kd.int .u16) 33 W w0.heap.size (fun _ => True) v l
  t : ∃ cs f, W.heap[b]? = some (.cells cs 41 f)
  n : w0.heap.size ≤ b
theorem XA.set {B N : Nat} {x : Ix} {g : Sg} {tb gb dk n : Nat} {L : Nat → Nat → Nat} {k : Int} {v u : Value} {l : List Int} {w0 W : World} {b j : Nat} (h : XA B N x g tb gb dk n L k v l w0 W b) : XA B N x g tb gb dk n L k v l w0 (W.setCell ⟨b, j, none⟩ u) b := by
  obtain ⟨cs, f, e⟩ := h.t
  have hB : B ≤ b := Nat.le_trans h.le h.n
  have hc : Ch [41] [] B W (W.setCell ⟨b, j, none⟩ u) := Ch.set (T := [41]) (M := []) e (by decide) hB (fun m hm => (by cases hm)) u
  refine ⟨⟨hc.cell h.tk.blk (by decide), h.tk.gt.chT hc (by decide), h.tk.le⟩, h.ch.setNew h.n h.le, h.le, hc.R h.r (by decide), ?_, h.n⟩
  have hlt := zF e
  have hx := (Array.getElem?_eq_some_iff.1 e).2
  exact ⟨cs.setIfInBounds j u, f, by simp [World.setCell, hlt, Array.getElem_modify, hx]⟩
theorem XA.drew {B N : Nat} {x : Ix} {g : Sg} {tb gb dk n : Nat} {L : Nat → Nat → Nat} {k : Int} {v : Value} {l : List Int} {w0 W : World} {b : Nat} (h : XA B N x g tb gb dk n L k v l w0 W b) : XA B N x g tb gb dk n L k v l w0 W.drew b := by
  have hb : Below W.heap.size W W.drew := zl (Below.refl _ _)
  obtain ⟨cs, f, e⟩ := h.t
  exact ⟨h.tk.below hb, h.ch.thenBelow hb h.le, h.le, Kd.zz h.r hb, ⟨cs, f, zb e hb⟩, h.n⟩
theorem vI (w : World) (B N N' : Nat) (x : Ix) (g g' : Sg) (tb gb dk n : Nat) (L : Nat → Nat → Nat) (k : Int) (h : xz w B N x g tb gb dk n L k) (hk : 0 ≤ k ∧ k < 1000) (c : Nat) (hc : c < n) (fn at_ nn v : Int) (p bl : List Int) (hp5 : p.length = 5) (hp8 : B8 p) (hfr : Zy #[.int .i64 fn, .int .i64 at_, .int .i64 nn, .int .u16 v, .int .u16 0, .int .u16 0, .slice none 0 0, .slice none 0 0, .int .i64 0, .int .i64 0, .int .i64 0, .int .i64 0] (k + 1) c (hb (k + 1) 6 c ++ p)) (hS : jP B N N' x g g' c p bl) (hOk : Ok (k + 1) ((bl.length : Int) + 1) c) (hbl8 : B8 bl) (exc : Int) (lw : List Int) (ra rv : Int) (hP : Ym fn exc lw ra rv nn bl) :
    Calls Tryz.prog 10 #[.pointer (some ⟨tb, 0, none⟩), .int .i64 (c : Int), .agg #[.int .i64 fn, .int .i64 at_, .int .i64 nn, .int .u16 v, .int .u16 0, .int .u16 0, .slice none 0 0, .slice none 0 0, .int .i64 0, .int .i64 0, .int .i64 0, .int .i64 0]] w fun e w' => ∃ A q, e = .returned (.tuple #[yu fn exc (.slice A lw.length q) ra rv, .bool true]) ∧ Kd.R (Kd.int .u16) 33 w' w.heap.size (fun _ => True) (.slice A lw.length q) lw ∧ xz w' B N' x g' tb gb dk n L (k + 1) ∧ Ch TT (MS x) B w w' := by
  have hu41 := Tryz.underlying41
  have hu37 := Tryz.underlying37
  have hu68 := Tryz.underlying68
  have hu53 := Tryz.underlying53
  have hn3 := h.gt.desk.le
  have hlen2 : (hb (k + 1) ((bl.length : Int) + 1) c ++ bl).length = 7 + bl.length := by rw [List.length_append, xM]
  have hcut : yw.f 9 (hb (k + 1) ((bl.length : Int) + 1) c ++ bl) = some (k + 1, (c : Int), bl, 7 + (bl.length : Int), 0) := by
    have h1 := XK (k + 1) c bl [] hOk
    rw [List.append_nil] at h1
    rw [WO _ (by rw [hlen2]; unfold Ok at hOk; omega) (Jr (k + 1) c bl hOk hbl8) (by omega), h1]
  have hbp : 1 ≤ bl.length := by unfold Ok at hOk; omega
  have HC2 := hQ (fun (W : World) (A0 : Option Addr) (c0 : Nat) (hr : Kd.C (Kd.int .u8) W A0 (7 + bl.length) (hb (k + 1) ((bl.length : Int) + 1) c ++ bl)) (h0 : 7 + bl.length ≤ c0) => by
    have h1 := yw.calls 9 A0 c0 (hb (k + 1) ((bl.length : Int) + 1) c ++ bl) (k + 1) c bl (7 + (bl.length : Int)) 0 W (by rw [hlen2]; exact hr) (by rw [hlen2]; exact h0) hcut
    rw [hlen2] at h1
    exact h1)
  have hw1 := ji (k + 1) 65536 (by omega)
  have hw2 := ji (c : Int) 256 (by omega)
  obtain ⟨W1, hW1⟩ : ∃ W1, W1 = (w.alloc (.cells #[.int .i64 fn, .int .i64 at_, .int .i64 nn, .int .u16 v, .int .u16 0, .int .u16 0, .slice none 0 0, .slice none 0 0, .int .i64 0, .int .i64 0, .int .i64 0, .int .i64 0] 37)).alloc (.cells yl 41) := ⟨_, rfl⟩
  have B1 := hQ (show Below w.heap.size w W1 by rw [hW1]; exact ((Below.refl _ _).alloc (Nat.le_refl _) _).alloc (by simp) _)
  have X1 := hQ (show W1.heap[w.heap.size]? = some (.cells #[.int .i64 fn, .int .i64 at_, .int .i64 nn, .int .u16 v, .int .u16 0, .int .u16 0, .slice none 0 0, .slice none 0 0, .int .i64 0, .int .i64 0, .int .i64 0, .int .i64 0] 37 (0, 0)) by rw [hW1]; exact zg (zi w _) _)
  have Y1 := hQ (show W1.heap[w.heap.size + 1]? = some (.cells yl 41 (0, 0)) by rw [hW1]; exact yS w _ _)
  have T1 := hQ (h.below B1.out)
  have C1 := hQ (h.chb B1.out)
  rw [hW1] at B1 X1 Y1 T1 C1
  have HS := hQ (fun (W : World) (hW : xz W B N x g tb gb dk n L k) => WV W B N N' x g g' tb gb dk n L k hW hk c hc fn at_ nn v p bl hp5 hp8 hfr hS hOk)
  have HLE := hQ h.gt.slv.lt
  have HP := hQ hP
  have HBP := hQ hbp
  have HW1 := hQ hw1
  have HW2 := hQ hw2
  obtain ⟨ci, hci⟩ : ∃ ci : Int, ci = (c : Int) := ⟨_, rfl⟩
  rw [← hci] at HS HC2 HW2 ⊢
  clear h hk hc hp5 hp8 hfr hS hOk hbl8 hP hn3 hlen2 hcut hbp hw1 hw2 hW1 hci
  simp only [yl, yu, zW, Ym] at B1 X1 Y1 T1 C1 HP ⊢
  obtain ⟨x0, x1, x2, x3, x4, x5, x6, x7, x8, x9, x10, x11⟩ := zV X1.out
  go_enter Tryz.func10, Tryz.ntmps10
  go_wp2_with (fail)
  refine (HS.out _ T1.out).mono ?_
  rintro e w2 ⟨A2, c2, rfl, hcc, hF2, hT2, hC2⟩
  have T2 := hQ hT2
  have C2 := hQ (C1.out.trans hC2)
  have X2 := hQ (hC2.cell X1.out (by decide))
  have Y2 := hQ (hC2.cell Y1.out (by decide))
  have F2 := hQ (Kd.XH hF2)
  have HCC := hQ hcc
  clear hcc hF2 hT2 hC2 x0 x1 x2 x3 x4 x5 x6 x7 x8 x9 x10 x11
  go_wp2_with (fail)
  refine (HC2.out w2 A2 c2 F2.out HCC.out).mono ?_
  rintro e w3 ⟨v0, rfl, hR, hbw⟩
  obtain ⟨A3, c3, rfl⟩ := Kd.yc hR
  have T3 := hQ (T2.out.below hbw)
  have C3 := hQ (C2.out.thenBelow hbw HLE.out)
  have X3 := hQ (zb X2.out hbw)
  have Y3 := hQ (zb Y2.out hbw)
  obtain ⟨g0, cap0, eg, _, _, _⟩ := Kd.qm hR HBP.out
  obtain ⟨rfl, rfl⟩ : A3 = some ⟨g0, 0, none⟩ ∧ c3 = cap0 := by injection eg with h1 h2 h3; exact ⟨h1, h3⟩
  have R3 := hQ (Kd.zB hR)
  clear hR hbw eg
  have hbw : Below w3.heap.size w3 (w3.alloc (.cells #[.int .i64 (k + 1), .int .i64 ci, .slice (some ⟨g0, 0, none⟩) bl.length c3] 68)).drew := zl ((Below.refl _ _).alloc (Nat.le_refl _) _)
  have T4 := hQ (T3.out.below hbw)
  have C4 := hQ (C3.out.thenBelow hbw HLE.out)
  have X4 := hQ (zb X3.out hbw)
  have Y4 := hQ (zb Y3.out hbw)
  have R4 := hQ (Kd.zx R3.out.2.2 hbw)
  have Z4 := hQ (zn (zi w3 (.cells #[.int .i64 (k + 1), .int .i64 ci, .slice (some ⟨g0, 0, none⟩) bl.length c3] 68)))
  clear hbw
  go_wp2_with (fail)
  refine sq_ (ds := []) #[false, false, false, false, false, false, false, false, false, false, false, false, false, false, false, false, false, false, false, false, false, false, false, false, false] (fun w' => w'.cell? ⟨w3.heap.size, 0, none⟩ = some (.int .i64 (k + 1)) ∧ w'.cell? ⟨w3.heap.size, 1, none⟩ = some (.int .i64 ci) ∧ w'.cell? ⟨tb, 1, none⟩ = some (.int .i64 (k + 1))) ⟨za Z4.out 0, za Z4.out 1, za T4.out.blk 1⟩ (fun hHeld => ?_)
  refine pq_ 0 (some 24) ?_
  refine pq_ 1 (some 25) ?_
  refine pq_ 2 (some 26) ?_
  refine pq_ 3 (some 27) ?_
  refine pq_ 4 (some 28) ?_
  refine pq_ 5 (some 29) ?_
  refine pq_ 6 (some 30) ?_
  refine pq_ 7 (some 31) ?_
  refine pq_ 8 (some 32) ?_
  refine pq_ 9 (some 33) ?_
  refine pq_ 11 (some 35) ?_
  refine pq_ 12 (some 36) ?_
  refine pq_ 13 (some 37) ?_
  refine tq_ 10 (some 34) hHeld ?_
  refine tq_ 14 (some 38) hHeld ?_
  refine oq_ 15 (some 39) (fun K hK => ?_)
  refine yh Tryz.func8 (by kernel_rfl) rfl #[.int .i64 (k + 1), .int .i64 65536] (by rfl) rfl rfl (by (try simp only [List.map_toArray, List.map_cons, List.map_nil]); first | done | rfl) ?_
  refine (zK.calls (k + 1) 65536 (k + 1) _ HW1.out).mono ?_
  rintro e w5 ⟨rfl, hd⟩
  have T5 := hQ (T4.out.below hd.below)
  have C5 := hQ (C4.out.thenBelow hd.below HLE.out)
  have X5 := hQ (zb X4.out hd.below)
  have Y5 := hQ (zb Y4.out hd.below)
  have Z5 := hQ (zb Z4.out hd.below)
  have R5 := hQ (Kd.zx R4.out hd.below)
  clear hd
  refine ⟨_, rfl, ?_⟩
  refine hK.out _ _ ⟨za Z5.out 0, za Z5.out 1, za T5.out.blk 1⟩ (fun hHeld => ?_)
  clear hK K
  refine nq_ ?_
  refine pq_ 16 (some 40) ?_
  refine pq_ 17 (some 41) ?_
  refine pq_ 18 (some 42) ?_
  refine pq_ 19 (some 43) ?_
  refine pq_ 21 (some 45) ?_
  refine tq_ 20 (some 44) hHeld ?_
  refine oq_ 22 (some 46) (fun K hK => ?_)
  refine yh Tryz.func8 (by kernel_rfl) rfl #[.int .i64 ci, .int .i64 256] (by rfl) rfl rfl (by (try simp only [List.map_toArray, List.map_cons, List.map_nil]); first | done | rfl) ?_
  refine (zK.calls ci 256 ci _ HW2.out).mono ?_
  rintro e w6 ⟨rfl, hd⟩
  have T6 := hQ (T5.out.below hd.below)
  have C6 := hQ (C5.out.thenBelow hd.below HLE.out)
  have X6 := hQ (zb X5.out hd.below)
  have Y6 := hQ (zb Y5.out hd.below)
  have Z6 := hQ (zb Z5.out hd.below)
  have R6 := hQ (Kd.zx R5.out hd.below)
  clear hd
  refine ⟨_, rfl, ?_⟩
  refine hK.out _ _ ⟨za Z6.out 0, za Z6.out 1, za T6.out.blk 1⟩ (fun hHeld => ?_)
  clear hK K
  refine nq_ ?_
  refine pq_ 23 (some 47) ?_
  refine pq_ 24 (some 48) ?_
  refine xJ (by kernel_rfl) ?_

  obtain ⟨f0, f1, f2⟩ := xD Z6.out
  obtain ⟨x0, x1, x2, x3, x4, x5, x6, x7, x8, x9, x10, x11⟩ := zV X6.out
  go_wp2_with (fail)
  refine (HP.out w6 g0 c3 R6.out R3.out.2.1).mono ?_
  rintro e w7 ⟨A6, k6, rfl, hR7, hbw⟩
  have hbw2 : Below w7.heap.size w7 (w7.alloc (.cells #[.int .i64 fn, .int .i64 exc, .slice none 0 0, .slice A6 lw.length k6, .int .i64 ra, .int .i64 0, .int .u16 rv, .int .u16 0, .int .u16 0, .int .i64 0, .int .i64 0, .bool false, .int .i64 0, .slice none 0 0] 41)) := (Below.refl _ _).alloc (Nat.le_refl _) _
  have T7 := hQ ((T6.out.below hbw).below hbw2)
  have C7 := hQ ((C6.out.thenBelow hbw HLE.out).thenBelow hbw2 HLE.out)
  have X7 := hQ (zb (zb X6.out hbw) hbw2)
  have Y7 := hQ (zb (zb Y6.out hbw) hbw2)
  have R7 := hQ (Kd.zz hR7 hbw2)
  have S7 := hQ (zF (zb Y6.out hbw))
  have S6 := hQ C6.out.size
  clear hbw hbw2 hR7 f0 f1 f2 hHeld x0 x1 x2 x3 x4 x5 x6 x7 x8 x9 x10 x11
  obtain ⟨x0, x1, x2, x3, x4, x5, x6, x7, x8, x9, x10, x11⟩ := zV X7.out
  obtain ⟨y0, y1, y2, y3, y4, y5, y6, y7, y8, y9, y10, y11, y12, y13⟩ := yK Y7.out
  have fy : ∀ i, (w7.alloc (.cells #[.int .i64 fn, .int .i64 exc, .slice none 0 0, .slice A6 lw.length k6, .int .i64 ra, .int .i64 0, .int .u16 rv, .int .u16 0, .int .u16 0, .int .i64 0, .int .i64 0, .bool false, .int .i64 0, .slice none 0 0] 41)).frozen? ⟨w.heap.size + 1, i, none⟩ = false := fun i => zh Y7.out i
  have hne1 : w.heap.size + 1 ≠ w7.heap.size := by have := S7.out; omega
  have hne2 : w7.heap.size ≠ w.heap.size + 1 := fun e => hne1 e.symm
  have hne3 : w.heap.size ≠ w7.heap.size := by have := S7.out; omega
  have hfn : (fn == fn) = true := beq_self_eq_true fn
  go_wp2_with (fail)
  go_region
  have L7 : XA B N' x g' tb gb dk n L (k + 1) (.slice A6 lw.length k6) lw w (w7.alloc (.cells #[.int .i64 fn, .int .i64 exc, .slice none 0 0, .slice A6 lw.length k6, .int .i64 ra, .int .i64 0, .int .u16 rv, .int .u16 0, .int .u16 0, .int .i64 0, .int .i64 0, .bool false, .int .i64 0, .slice none 0 0] 41)) (w.heap.size + 1) := ⟨T7.out, C7.out, HLE.out, Kd.zU R7.out (by have := S6.out; omega), ⟨_, _, Y7.out⟩, by omega⟩
  have HL := hQ L7
  clear L7
  go_wp2
  refine bodyPost_ret (v := .tuple #[.agg #[.int .i64 fn, .int .i64 exc, .slice none 0 0, .slice A6 lw.length k6, .int .i64 ra, .int .i64 0, .int .u16 rv, .int .u16 0, .int .u16 0, .int .i64 0, .int .i64 0, .bool false, .int .i64 0, .slice none 0 0], .bool true]) ?_ rfl ⟨A6, k6, rfl, ?_⟩
  · simp [results, Tryz.results10, go_sem, hu41, y0, y1, y2, y3, y4, y5, y6, y7, y8, y9, y10, y11, y12, y13]
  · have hfin : ∀ W : World, XA B N' x g' tb gb dk n L (k + 1) (.slice A6 lw.length k6) lw w W (w.heap.size + 1) → Kd.R (Kd.int .u16) 33 W w.heap.size (fun _ => True) (.slice A6 lw.length k6) lw ∧ xz W B N' x g' tb gb dk n L (k + 1) ∧ Ch TT (MS x) B w W := fun W hW => ⟨hW.r, hW.tk, hW.ch⟩
    refine hfin _ ?_
    repeat (with_reducible first | exact HL.out | (refine XA.set ?_) | (refine XA.drew ?_))
end Go.Proofs.YtlalbohhopmpdaaGreat.Top
namespace Go.Proofs.YtlalbohhopmpdaaGreat.Top
open Go.RowKit Go.Proofs.YtlalbohhopmpdaaGreat.PTop Go.YW.PrintWords Go.YW.PrintLast Go.YW.PrintMore Go.Proofs.YtlalbohhopmpdaaGreat.Num
open Go.Proofs.YtlalbohhopmpdaaGreat.LemHeadTop Go.Proofs.YtlalbohhopmpdaaGreat.LemAduTop Go.Proofs.YtlalbohhopmpdaaGreat.LemWithinTop Go.Proofs.YtlalbohhopmpdaaGreat.LemAskBTop Go.Proofs.YtlalbohhopmpdaaGreat.LemAskCTop
theorem Qq (a v t u : Int) (ha : 0 ≤ a ∧ a < 256) (hv : 0 ≤ v ∧ v < 65536) (ht : 0 ≤ t ∧ t < 65536) (hu : 0 ≤ u ∧ u < 256) : Zy #[.int .i64 6, .int .i64 a, .int .i64 0, .int .u16 v, .int .u16 0, .int .u16 0, .slice none 0 0, .slice none 0 0, .int .i64 0, .int .i64 0, .int .i64 0, .int .i64 0] t u (hb t 6 u ++ [6, 0, a, v / 256, v % 256]) := by
  have h := za5 a v t u (by omega) hv ht hu
  rw [show a / 256 = 0 by omega, show a % 256 = a by omega] at h
  exact h
theorem VG (a n t u : Int) (ha : 0 ≤ a ∧ a < 256) (hn : 1 ≤ n ∧ n ≤ 16) (ht : 0 ≤ t ∧ t < 65536) (hu : 0 ≤ u ∧ u < 256) : Zy #[.int .i64 3, .int .i64 a, .int .i64 n, .int .u16 0, .int .u16 0, .int .u16 0, .slice none 0 0, .slice none 0 0, .int .i64 0, .int .i64 0, .int .i64 0, .int .i64 0] t u (hb t 6 u ++ [3, 0, a, 0, n]) := by
  have h := zaM a n t u (by omega) (by omega) ht hu
  rw [show a / 256 = 0 by omega, show a % 256 = a by omega, show n / 256 = 0 by omega, show n % 256 = n by omega] at h
  exact h
theorem JV (a v : Int) (ha : 0 ≤ a ∧ a < 256) (hv : 0 ≤ v ∧ v < 65536) : B8 [6, 0, a, v / 256, v % 256] := by
  intro x hx
  simp only [List.mem_cons, List.not_mem_nil, or_false] at hx
  omega
theorem zdL (a v : Int) (ha : 0 ≤ a ∧ a < 256) (hv : 0 ≤ v ∧ v < 256) : B8 [3, 0, a, 0, v] := by
  intro x hx
  simp only [List.mem_cons, List.not_mem_nil, or_false] at hx
  omega
theorem zcF : ∀ (l : List Int), B8 (yx l)
  | [] => fun x hx => by cases hx
  | y :: l => fun x hx => by
    simp only [yx, List.mem_cons] at hx
    rcases hx with rfl | rfl | hx
    · omega
    · omega
    · exact zcF l x hx
theorem zcx (l : List Int) (h : l.length ≤ 16) : B8 (3 :: 2 * (l.length : Int) :: yx l) := by
  intro x hx
  simp only [List.mem_cons] at hx
  rcases hx with rfl | rfl | hx
  · omega
  · omega
  · exact zcF l x hx
theorem vM (a v nn : Int) (ha : okA a ∨ a = 100) (ha2 : 0 ≤ a ∧ a < 256) (hv : 0 ≤ v ∧ v < 65536) : Ym 6 0 [] a v nn [6, 0, a, v / 256, v % 256] := fun w1 g0 c hC hc => (zbH w1 g0 c a v nn ha ha2 hv hC hc).mono (by rintro e w2 ⟨rfl, hb⟩; exact ⟨none, 0, rfl, Kd.ql _ _ _ _ _, hb⟩)
theorem zbj (x nn : Int) (hx : 0 ≤ x ∧ x < 65536) : Ym 3 0 [x] 0 0 nn (3 :: 2 * (([x] : List Int).length : Int) :: yx [x]) := fun w1 g0 c hC hc => za8 w1 g0 c x nn hx hC hc
end Go.Proofs.YtlalbohhopmpdaaGreat.Top
