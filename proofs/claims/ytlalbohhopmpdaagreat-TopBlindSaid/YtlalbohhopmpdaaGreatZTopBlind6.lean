/- Words and walks for TopBlind (made of the session's own texts; each part by itself). -/
import Derived.Deep.DeepCutAuto
import Derived.Deep.DeepMust
import Derived.Test.YtlalbohhopmpdaaGreatZTopBlind5
set_option maxRecDepth 100000
set_option maxHeartbeats 8000000
set_option linter.unusedVariables false
set_option linter.unusedSimpArgs false
namespace Go.Proofs.YtlalbohhopmpdaaGreat.Top
open Go.RowKit Go.Proofs.YtlalbohhopmpdaaGreat.PTop Go.YW.PrintWords Go.YW.PrintLast Go.YW.PrintMore Go.Proofs.YtlalbohhopmpdaaGreat.Num
attribute [local go_sem] zk zo
theorem zbx (w : World) : (zeroValue 191).run Tryz.prog w = .ok (Xh (0, 0, 0)) w := by kernel_rfl
theorem zdY (w : World) : (zeroValue 3).run Tryz.prog w = .ok (.int .i64 0) w := by kernel_rfl
theorem vL : ∀ (a b c d : Value) (W : World), (Instr.field 191 (.agg #[a, b, c, d]) 0).run Tryz.prog W = .ok (.agg #[a, b, c, d]) W := fun a b c d W => by kernel_rfl
theorem jT : ∀ (a : Int) (b c d : Value) (W : World), (Instr.field 189 (.agg #[.int .i64 a, b, c, d]) 0).run Tryz.prog W = .ok (.int .i64 a) W := fun a b c d W => by kernel_rfl
theorem zcL (o : Option (Int × Int × Int)) : (o.map Xh).getD (Xh (0, 0, 0)) = Xh (o.getD (0, 0, 0)) := by cases o <;> rfl
theorem jf.look {w : World} {B N ss en bk ms : Nat} {ticks : Int} {ses : Int → Option (Int × Int × Int)} (h : jf w B N ss en bk ms ticks ses) {c : Int} (hc : (Lit.int .i64 c).wf = true) : (Instr.lookup 131 (.map (some ms)) (.int .i64 c) false).run Tryz.prog w = .ok (.agg #[.int .i64 ((ses c).getD (0, 0, 0)).1, .int .i64 ((ses c).getD (0, 0, 0)).2.1, .int .i64 0, .int .u64 ((ses c).getD (0, 0, 0)).2.2]) w := by
  obtain ⟨n, hm⟩ := h.map
  have hl := hm.look Tryz.underlying131 (zbx w) (x := c) hc
  rw [zcL] at hl
  exact hl
theorem vZ (w : World) (B N ss en bk ms : Nat) (ticks : Int) (ses : Int → Option (Int × Int × Int)) (h : jf w B N ss en bk ms ticks ses) (c : Int) (hc : (Lit.int .i64 c).wf = true) :
    Calls Tryz.prog 99 #[.pointer (some ⟨ss, 0, none⟩), .int .i64 c] w fun e w' => e = .returned (.bool (((ses c).getD (0, 0, 0)).1 == 1)) ∧ Below w.heap.size w w' := by
  have hu133 := Tryz.underlying133
  have hf191 := vL
  have hf189 := jT
  have hl := h.look hc
  obtain ⟨c0, c1, c2, c3⟩ := h.cells
  clear h
  go_enter Tryz.func99, Tryz.ntmps99
  go_wp2
  go_ret
  exact ⟨rfl, Below.refl _ _⟩
theorem YV (w : World) (B N ss en bk ms : Nat) (ticks : Int) (ses : Int → Option (Int × Int × Int)) (h : jf w B N ss en bk ms ticks ses) (c : Int) (hc : (Lit.int .i64 c).wf = true) :
    Calls Tryz.prog 143 #[.pointer (some ⟨ss, 0, none⟩), .int .i64 c] w fun e w' => e = .returned (.agg #[.int .i64 ((ses c).getD (0, 0, 0)).1, .int .i64 ((ses c).getD (0, 0, 0)).2.1, .int .i64 ticks, .int .u64 ((ses c).getD (0, 0, 0)).2.2]) ∧ Below w.heap.size w w' := by
  have hu133 := Tryz.underlying133
  have hu189 := Tryz.underlying189
  have hf191 := vL
  have hb1 : Below w.heap.size w (w.alloc (.cells #[.int .i64 0, .int .i64 0, .int .i64 0, .int .u64 0] 189)) := (Below.refl _ _).alloc (Nat.le_refl _) _
  have HS := hQ (h.below hb1)
  have HS2 := hQ (HS.out.below ((Below.refl _ _).alloc (Nat.le_refl _) (.cells #[.int .i64 ((ses c).getD (0, 0, 0)).1, .int .i64 ((ses c).getD (0, 0, 0)).2.1, .int .i64 0, .int .u64 ((ses c).getD (0, 0, 0)).2.2] 189)))
  clear hb1
  have hl := HS.out.look hc
  obtain ⟨c0, c1, c2, c3⟩ := HS.out.cells
  obtain ⟨d0, d1, d2, d3⟩ := HS2.out.cells
  clear h
  go_enter Tryz.func143, Tryz.ntmps143
  go_wp2
  refine bodyPost_ret (v := .agg #[.int .i64 ((ses c).getD (0, 0, 0)).1, .int .i64 ((ses c).getD (0, 0, 0)).2.1, .int .i64 ticks, .int .u64 ((ses c).getD (0, 0, 0)).2.2]) (by simp [results, Tryz.results143, go_sem, hu189]) rfl ⟨rfl, ?_⟩
  repeat (first | exact Below.refl _ _ | (refine Below.setCell ?_ (by simp) _) | (refine Below.alloc ?_ (by simp) _))
theorem WL (w : World) (B N bk mb : Nat) (ticks : Int) (h : qp w B N bk mb ticks) (c : Int) (hc : (Lit.int .i64 c).wf = true) :
    Calls Tryz.prog 100 #[.pointer (some ⟨bk, 0, none⟩), .int .i64 c] w fun e w' => (∃ b, e = .returned (.bool b)) ∧ qp w' B N bk mb ticks ∧ Ch [] [mb] B w w' := by
  have hu182 := Tryz.underlying182
  obtain ⟨n, F, hm⟩ := h.map
  have hl := hm.look_ok Tryz.underlying180 (zdY w) (x := c) hc
  obtain ⟨w1, hrun, hm1, hg⟩ := hm.del Tryz.underlying180 (x := c) hc 0
  have hl2 : (Instr.lookup 180 (.map (some mb)) (.int .i64 c) true).run Tryz.prog w = .ok (.tuple #[(F c).getD (.int .i64 0), .bool (F c).isSome]) w := hl
  have hr2 : (Builtin.delete_ #[180, 3] 0 #[.map (some mb), .int .i64 c]).run Tryz.prog w = .ok (.tuple #[]) w1 := hrun
  have HG := hQ hg
  have HM := hQ hm1
  have HH := hQ h
  obtain ⟨c0, c1⟩ := h.cells
  clear hm h hl hrun hg hm1
  go_enter Tryz.func100, Tryz.ntmps100
  go_wp2
  go_ret
  exact ⟨⟨_, rfl⟩, HH.out.put HM.out HG.out⟩
theorem XF (w : World) (B N bk mb : Nat) (ticks : Int) (h : qp w B N bk mb ticks) (hN : N < maxLen) (c : Int) (hc : (Lit.int .i64 c).wf = true) :
    Calls Tryz.prog 131 #[.pointer (some ⟨bk, 0, none⟩), .int .i64 c] w fun e w' => e = .returned (.tuple #[]) ∧ qp w' B (N + 1) bk mb ticks ∧ Ch [] [mb] B w w' := by
  have hu182 := Tryz.underlying182
  have HH := hQ h
  have HN := hQ hN
  obtain ⟨c0, c1⟩ := h.cells
  have HD := hQ (h.below (zl (Below.refl _ _)))
  obtain ⟨n, F, hm⟩ := HD.out.map
  obtain ⟨w1, hrun, hm1, hg⟩ := hm.put Tryz.underlying180 hN (x := c) hc (.int .i64 ticks)
  have hr2 : (Instr.mapUpdate 180 (.map (some mb)) (.int .i64 c) (.int .i64 ticks)).run Tryz.prog w.drew = .ok () w1 := hrun
  have HP := hQ (HD.out.put hm1 hg)
  clear h hN hm hm1 hrun hg
  go_enter Tryz.func131, Tryz.ntmps131
  go_wp2_with (fail)
  go_region
  go_wp2
  refine bodyPost_end (v := .tuple #[]) (by simp [results, Tryz.results131, go_sem]) rfl ⟨rfl, HP.out.1, (Ch.of_below (zl (Below.refl _ _)) HH.out.lt (qQ HH.out.mapb)).trans HP.out.2⟩
theorem Jc (w : World) (B N ss en bk ms : Nat) (ticks : Int) (ses : Int → Option (Int × Int × Int)) (h : jf w B N ss en bk ms ticks ses) :
    Calls Tryz.prog 38 #[.pointer (some ⟨ss, 0, none⟩)] w fun e w' => e = .returned (.pointer (some ⟨en, 0, none⟩)) ∧ Below w.heap.size w w' := by
  have hu133 := Tryz.underlying133
  obtain ⟨c0, c1, c2, c3⟩ := h.cells
  clear h
  go_enter Tryz.func38, Tryz.ntmps38
  go_wp2
  go_ret
  exact ⟨rfl, Below.refl _ _⟩
theorem Yf (w : World) (B N en st me : Nat) (most spans writes : Int) (c : Nat) (vs : Int → Option VS) (h : jd w B N en st me most spans writes c vs) :
    Calls Tryz.prog 47 #[.pointer (some ⟨en, 0, none⟩)] w fun e w' => e = .returned (.pointer (some ⟨st, 0, none⟩)) ∧ Below w.heap.size w w' := by
  have hu125 := Tryz.underlying125
  obtain ⟨c0, c1, c2, c3, c4⟩ := h.cells
  clear h
  go_enter Tryz.func47, Tryz.ntmps47
  go_wp2
  go_ret
  exact ⟨rfl, Below.refl _ _⟩
theorem kX (w : World) (B N st mst : Nat) (s : SS) (h : xg w B N st mst s) :
    Calls Tryz.prog 21 #[.pointer (some ⟨st, 0, none⟩)] w fun e w' => e = .returned (.int .u64 s.last) ∧ Below w.heap.size w w' := by
  have hu118 := Tryz.underlying118
  obtain ⟨c0, c1, c2, c3⟩ := h.cells
  clear h
  go_enter Tryz.func21, Tryz.ntmps21
  go_wp2
  go_ret
  exact ⟨rfl, Below.refl _ _⟩
def upd {α : Type} (f : Int → Option α) (c : Int) (x : Option α) : Int → Option α := fun k => if k = c then x else f k
theorem jf.turn {w : World} {B N ss en bk ms : Nat} {ticks : Int} {ses : Int → Option (Int × Int × Int)} (h : jf w B N ss en bk ms ticks ses) (hN : N < maxLen) {c : Int} (hc : (Lit.int .i64 c).wf = true) (a b q : Int) :
    ∃ w1, (Instr.mapUpdate 131 (.map (some ms)) (.int .i64 c) (.agg #[.int .i64 a, .int .i64 b, .int .i64 0, .int .u64 q])).run Tryz.prog w = .ok () w1 ∧ jf w1 B (N + 1) ss en bk ms ticks (upd ses c (some (a, b, q))) ∧ Ch [] [ms] B w w1 := by
  obtain ⟨n, hm⟩ := h.map
  obtain ⟨w1, hrun, hm1, hg⟩ := hm.put Tryz.underlying131 hN (x := c) hc (Xh (a, b, q))
  refine ⟨w1, hrun, h.put (ses' := upd ses c (some (a, b, q))) (c := if ((ses c).map Xh).isSome then n else n + 1) ?_ hg⟩
  have e : (fun k => (upd ses c (some (a, b, q)) k).map Xh) = fun y => if y = c then some (Xh (a, b, q)) else (ses y).map Xh := by
    funext k
    unfold upd
    split <;> rfl
  rw [e]
  exact hm1
theorem zac : ∀ (a b q : Int) (W : World), (Instr.build 191 #[(0, .agg #[.int .i64 a, .int .i64 b, .int .i64 0, .int .u64 q])]).run Tryz.prog W = .ok (.agg #[.int .i64 a, .int .i64 b, .int .i64 0, .int .u64 q]) W := fun a b q W => by kernel_rfl
def Sg.turn (g : Sg) (c : Int) (x : Int × Int × Int) : Sg := { g with ses := upd g.ses c (some x) }
theorem kI (w : World) (B N : Nat) (x : Ix) (g : Sg) (h : ym w B N x g) (hN : N < maxLen) (c : Int) (hc : (Lit.int .i64 c).wf = true) (a b q : Int) :
    Calls Tryz.prog 70 #[.pointer (some ⟨x.ss, 0, none⟩), .int .i64 c, .int .i64 a, .int .i64 b, .int .u64 q] w fun e w' => e = .returned (.tuple #[]) ∧ ym w' B (N + 1) x (g.turn c (a, b, q)) ∧ Ch TS (MS x) B w w' := by
  have hu133 := Tryz.underlying133
  have hu189 := Tryz.underlying189
  have hb191 := zac
  obtain ⟨w1, hrun, hS, hC⟩ := h.ss.turn hN hc a b q
  obtain ⟨c0, c1, c2, c3⟩ := h.ss.cells
  obtain ⟨d0, d1, d2, d3⟩ := hS.cells
  have HS := hQ (h.of_ses (Nat.le_succ N) hS hC)
  have HC := hQ hc
  clear h hS hC hc hN
  go_enter Tryz.func70, Tryz.ntmps70
  by_cases ha : a = 1
  · subst ha
    go_wp2
    refine bodyPost_end (v := .tuple #[]) (by simp [results, Tryz.results70, go_sem]) rfl ⟨rfl, HS.out⟩
  · have ha2 : (a == 1) = false := by simpa using ha
    go_wp2_with (fail)
    refine (WL w1 B (N + 1) x.bk x.mb x.ticks HS.out.1.bk c HC.out).mono ?_
    rintro e w2 ⟨⟨b2, rfl⟩, hK, hC⟩
    have HS2 := hQ (HS.out.1.of_book (Nat.le_refl _) hK hC)
    clear hK hC
    go_wp2
    refine bodyPost_end (v := .tuple #[]) (by simp [results, Tryz.results70, go_sem]) rfl ⟨rfl, HS2.out.1, HS.out.2.trans HS2.out.2⟩
theorem XG (w : World) (B N : Nat) (x : Ix) (g : Sg) (h : ym w B N x g) (hN : N < maxLen) (c : Int) (hc : (Lit.int .i64 c).wf = true) :
    Calls Tryz.prog 104 #[.pointer (some ⟨x.ss, 0, none⟩), .int .i64 c] w fun e w' => e = .returned (.tuple #[]) ∧ ym w' B (N + 1) x g ∧ Ch TS (MS x) B w w' := by
  have hu133 := Tryz.underlying133
  have HN := hQ hN
  have HC := hQ hc
  have HH := hQ h
  clear h hc hN
  go_enter Tryz.func104, Tryz.ntmps104
  go_wp2_with (fail)
  refine (vZ w B N x.ss x.en x.bk x.ms x.ticks g.ses HH.out.ss c HC.out).mono ?_
  rintro e w1 ⟨rfl, hb⟩
  have H1 := hQ (HH.out.below hb)
  have C1 := hQ (HH.out.chb hb)
  obtain ⟨c0, c1, c2, c3⟩ := H1.out.ss.cells
  clear hb
  cases hd : ((g.ses c).getD (0, 0, 0)).1 == 1
  · go_wp2
    refine bodyPost_end (v := .tuple #[]) (by simp [results, Tryz.results104, go_sem]) rfl ⟨rfl, H1.out.mono (Nat.le_succ N), C1.out⟩
  · go_wp2_with (fail)
    refine (XF w1 B N x.bk x.mb x.ticks H1.out.bk HN.out c HC.out).mono ?_
    rintro e w2 ⟨rfl, hK, hC⟩
    have H2 := hQ (H1.out.of_book (Nat.le_succ N) hK hC)
    clear hK hC
    go_wp2
    refine bodyPost_end (v := .tuple #[]) (by simp [results, Tryz.results104, go_sem]) rfl ⟨rfl, H2.out.1, C1.out.trans H2.out.2⟩
end Go.Proofs.YtlalbohhopmpdaaGreat.Top
