/- Words and walks for TopSkew (made of the session's own texts; each part by itself). -/
import Derived.Deep.DeepCutAuto
import Derived.Deep.DeepMust
import Derived.Deep.RegionLaw
import Derived.RegionTactic
import Derived.ChangeAlike
import Derived.Laws.CopyOwn
import Derived.Outline
import Derived.Lib.Hide
import Derived.WalkSpells
import Derived.Test.YtlalbohhopmpdaaGreatZTopSkew15
import Derived.Test.YtlalbohhopmpdaaGreatZTopSkew16
set_option maxRecDepth 100000
set_option maxHeartbeats 8000000
set_option linter.unusedVariables false
set_option linter.unusedSimpArgs false
namespace Go.Proofs.YtlalbohhopmpdaaGreat.Top
open Go.RowKit Go.Proofs.YtlalbohhopmpdaaGreat.PTop Go.YW.PrintWords Go.YW.PrintLast Go.YW.PrintMore Go.Proofs.YtlalbohhopmpdaaGreat.Num
open Go.Proofs.YtlalbohhopmpdaaGreat.Ring (yM yw Fr2 Fr3)
attribute [local go_sem] zm zu
structure GCs (cs : Array Value) (m gr o : Value) (dk ss n : Nat) (L : Nat → Nat → Nat) : Prop where
  size : cs.size = 79
  cfg : ∀ i, i < 13 → cs[i]? = (xA m gr o)[i]?
  dk : cs[13]? = some (.pointer (some ⟨dk, 0, none⟩))
  ss : cs[14]? = some (.pointer (some ⟨ss, 0, none⟩))
  ln : ∀ c, c < n → cs[15 + 2 * c]? = some (.pointer (some ⟨L c 0, 0, none⟩)) ∧ cs[16 + 2 * c]? = some (.pointer (some ⟨L c 3, 0, none⟩))
structure zQ (w : World) (B N : Nat) (x : Ix) (g : Sg) (gb dk n : Nat) (L : Nat → Nat → Nat) (Qi Qo : Nat → List Int) : Prop where
  blk : ∃ cs m gr o, w.heap[gb]? = some (.cells cs 98 (0, 0)) ∧ GCs cs m gr o dk x.ss n L ∧ qF w m gr
  desk : kG w dk n
  slv : ym w B N x g
  fl : ∀ c, c < n → yM w (L c 0) (L c 1) (L c 2) 1024 (Qi c) false
  rg : ∀ c, c < n → yw w (L c 3) (L c 4) 1024 (Qo c)
  lo : ∀ c i, c < n → i < 5 → B ≤ L c i ∧ L c i ≠ gb ∧ L c i ≠ dk
  ap : ∀ c c' i j, c < n → c' < n → i < 5 → j < 5 → (c ≠ c' ∨ i ≠ j) → L c i ≠ L c' j
theorem qF.chT {B : Nat} {T M : List Nat} {w w1 : World} {m g : Value} (h : qF w m g) (hc : Ch T M B w w1) (h1 : 78 ∉ T) (h2 : 81 ∉ T) : qF w1 m g := by
  obtain ⟨⟨Am, cm, e1, r1⟩, Ag, cg, e2, r2⟩ := h
  exact ⟨⟨Am, cm, e1, hc.R r1 (fun q hq => by have hq2 : q ∈ [78] := hq; rw [List.mem_singleton.1 hq2]; exact h1)⟩, Ag, cg, e2, hc.R r2 (fun q hq => by have hq2 : q ∈ [81] := hq; rw [List.mem_singleton.1 hq2]; exact h2)⟩
section
variable {w w1 : World} {B N N' : Nat} {x : Ix} {g g' : Sg} {gb dk n : Nat} {L : Nat → Nat → Nat} {Qi Qo : Nat → List Int}
theorem qf {gf g1 b1 M : Nat} {q : List Int} {bad : Bool} (h : yM w gf g1 b1 M q bad) : (∃ cs f, w.heap[gf]? = some (.cells cs 184 f)) ∧ (∃ cs f, w.heap[g1]? = some (.cells cs 186 f)) ∧ ∃ cs f, w.heap[b1]? = some (.cells cs 5 f) := by
  obtain ⟨f, bs, h1, h2, _⟩ := h.r.ex
  exact ⟨⟨_, _, h.f⟩, ⟨_, _, h1⟩, ⟨_, _, h2⟩⟩
theorem jr {g1 b1 M : Nat} {q : List Int} (h : yw w g1 b1 M q) : (∃ cs f, w.heap[g1]? = some (.cells cs 186 f)) ∧ ∃ cs f, w.heap[b1]? = some (.cells cs 5 f) := by
  obtain ⟨f, bs, h1, h2, _⟩ := h.ex
  exact ⟨⟨_, _, h1⟩, ⟨_, _, h2⟩⟩
theorem yM.keep {gf g1 b1 M : Nat} {q : List Int} {bad : Bool} (h : yM w gf g1 b1 M q bad) (h0 : w1.heap[gf]? = w.heap[gf]?) (h1 : w1.heap[g1]? = w.heap[g1]?) (h2 : w1.heap[b1]? = w.heap[b1]?) : yM w1 gf g1 b1 M q bad := ⟨h0.trans h.f, h.r.keep h1 h2⟩
theorem zQ.below (h : zQ w B N x g gb dk n L Qi Qo) (hb : Below w.heap.size w w1) : zQ w1 B N x g gb dk n L Qi Qo := by
  obtain ⟨cs, m, gr, o, h1, h2, h3⟩ := h.blk
  exact ⟨⟨cs, m, gr, o, zb h1 hb, h2, h3.below hb⟩, h.desk.below hb, h.slv.below hb, fun c hc => (h.fl c hc).below hb, fun c hc => (h.rg c hc).below hb, h.lo, h.ap⟩
theorem zQ.step (h : zQ w B N x g gb dk n L Qi Qo) (hs : ym w1 B N' x g') (hc : Ch TS (MS x) B w w1) : zQ w1 B N' x g' gb dk n L Qi Qo := by
  obtain ⟨cs, m, gr, o, h1, h2, h3⟩ := h.blk
  have kp : ∀ {b t : Nat}, (∃ cs f, w.heap[b]? = some (.cells cs t f)) → t ∉ TS → w1.heap[b]? = w.heap[b]? := fun ⟨cs, f, e⟩ ht => (hc.cell e ht).trans e.symm
  refine ⟨⟨cs, m, gr, o, hc.cell h1 (by decide), h2, h3.ch hc⟩, ⟨hc.cell h.desk.blk (by decide), h.desk.le⟩, hs, fun c hcn => ?_, fun c hcn => ?_, h.lo, h.ap⟩
  · obtain ⟨k0, k1, k2⟩ := qf (h.fl c hcn)
    exact yM.keep (h.fl c hcn) (kp k0 (by decide)) (kp k1 (by decide)) (kp k2 (by decide))
  · obtain ⟨k1, k2⟩ := jr (h.rg c hcn)
    exact (h.rg c hcn).keep (kp k1 (by decide)) (kp k2 (by decide))
theorem Qt {a b c : Nat} (hf : Fr3 a b c w w1) (ha : B ≤ a ∧ ∃ cs f, w.heap[a]? = some (.cells cs 184 f)) (hb : B ≤ b ∧ ∃ cs f, w.heap[b]? = some (.cells cs 186 f)) (hc : B ≤ c ∧ ∃ cs f, w.heap[c]? = some (.cells cs 5 f)) : B ≤ w.heap.size → Ch [184, 186, 5] [] B w w1 := fun hB => by
  obtain ⟨ha, ca, fa, ea⟩ := ha
  obtain ⟨hb, cb, fb, eb⟩ := hb
  obtain ⟨hc, cc, fc, ec⟩ := hc
  refine ⟨hf.os, hf.tape, hf.output, hf.size, fun i hi => hf.block i (by omega) (by omega) (by omega) (by omega), fun m hm => (by cases hm), fun i hi _ ht => hf.block i hi ?_ ?_ ?_⟩
  · rintro rfl; exact ht ca 184 fa ea (by decide)
  · rintro rfl; exact ht cb 186 fb eb (by decide)
  · rintro rfl; exact ht cc 5 fc ec (by decide)
def qX (Q : Nat → List Int) (c : Nat) (q : List Int) : Nat → List Int := fun k => if k = c then q else Q k
theorem zQ.flow (h : zQ w B N x g gb dk n L Qi Qo) {c : Nat} (hc : c < n) {q : List Int} (hw : yM w1 (L c 0) (L c 1) (L c 2) 1024 q false) (hf : Fr3 (L c 0) (L c 1) (L c 2) w w1) : zQ w1 B N x g gb dk n L (qX Qi c q) Qo := by
  obtain ⟨cs, m, gr, o, h1, h2, h3⟩ := h.blk
  obtain ⟨k0, k1, k2⟩ := qf (h.fl c hc)
  have hch := Qt hf ⟨(h.lo c 0 hc (by omega)).1, k0⟩ ⟨(h.lo c 1 hc (by omega)).1, k1⟩ ⟨(h.lo c 2 hc (by omega)).1, k2⟩ h.slv.lt
  refine ⟨⟨cs, m, gr, o, hch.cell h1 (by decide), h2, h3.chT hch (by decide) (by decide)⟩, ⟨hch.cell h.desk.blk (by decide), h.desk.le⟩, h.slv.chT hch (by decide), fun c' hc' => ?_, fun c' hc' => ?_, h.lo, h.ap⟩
  · by_cases e : c' = c
    · subst e
      rw [show qX Qi c' q c' = q from if_pos rfl]
      exact hw
    · rw [show qX Qi c q c' = Qi c' from if_neg e]
      obtain ⟨j0, j1, j2⟩ := qf (h.fl c' hc')
      obtain ⟨_, _, e0⟩ := j0; obtain ⟨_, _, e1⟩ := j1; obtain ⟨_, _, e2⟩ := j2
      exact yM.keep (h.fl c' hc') (hf.block _ (zF e0) (h.ap c' c 0 0 hc' hc (by omega) (by omega) (.inl e)) (h.ap c' c 0 1 hc' hc (by omega) (by omega) (.inl e)) (h.ap c' c 0 2 hc' hc (by omega) (by omega) (.inl e)))
        (hf.block _ (zF e1) (h.ap c' c 1 0 hc' hc (by omega) (by omega) (.inl e)) (h.ap c' c 1 1 hc' hc (by omega) (by omega) (.inl e)) (h.ap c' c 1 2 hc' hc (by omega) (by omega) (.inl e)))
        (hf.block _ (zF e2) (h.ap c' c 2 0 hc' hc (by omega) (by omega) (.inl e)) (h.ap c' c 2 1 hc' hc (by omega) (by omega) (.inl e)) (h.ap c' c 2 2 hc' hc (by omega) (by omega) (.inl e)))
  · obtain ⟨j1, j2⟩ := jr (h.rg c' hc')
    obtain ⟨_, _, e1⟩ := j1; obtain ⟨_, _, e2⟩ := j2
    exact (h.rg c' hc').keep (hf.block _ (zF e1) (h.ap c' c 3 0 hc' hc (by omega) (by omega) (.inr (by omega))) (h.ap c' c 3 1 hc' hc (by omega) (by omega) (.inr (by omega))) (h.ap c' c 3 2 hc' hc (by omega) (by omega) (.inr (by omega))))
      (hf.block _ (zF e2) (h.ap c' c 4 0 hc' hc (by omega) (by omega) (.inr (by omega))) (h.ap c' c 4 1 hc' hc (by omega) (by omega) (.inr (by omega))) (h.ap c' c 4 2 hc' hc (by omega) (by omega) (.inr (by omega))))
theorem zQ.ring (h : zQ w B N x g gb dk n L Qi Qo) {c : Nat} (hc : c < n) {q : List Int} (hw : yw w1 (L c 3) (L c 4) 1024 q) (hf : Fr2 (L c 3) (L c 4) w w1) : zQ w1 B N x g gb dk n L Qi (qX Qo c q) := by
  obtain ⟨cs, m, gr, o, h1, h2, h3⟩ := h.blk
  obtain ⟨k1, k2⟩ := jr (h.rg c hc)
  obtain ⟨k0, _, _⟩ := qf (h.fl c hc)
  have hch := Qt (a := L c 0) (Fr3.of_fr2 hf) ⟨(h.lo c 0 hc (by omega)).1, k0⟩ ⟨(h.lo c 3 hc (by omega)).1, k1⟩ ⟨(h.lo c 4 hc (by omega)).1, k2⟩ h.slv.lt
  refine ⟨⟨cs, m, gr, o, hch.cell h1 (by decide), h2, h3.chT hch (by decide) (by decide)⟩, ⟨hch.cell h.desk.blk (by decide), h.desk.le⟩, h.slv.chT hch (by decide), fun c' hc' => ?_, fun c' hc' => ?_, h.lo, h.ap⟩
  · obtain ⟨j0, j1, j2⟩ := qf (h.fl c' hc')
    obtain ⟨_, _, e0⟩ := j0; obtain ⟨_, _, e1⟩ := j1; obtain ⟨_, _, e2⟩ := j2
    exact yM.keep (h.fl c' hc') (hf.block _ (zF e0) (h.ap c' c 0 3 hc' hc (by omega) (by omega) (.inr (by omega))) (h.ap c' c 0 4 hc' hc (by omega) (by omega) (.inr (by omega))))
      (hf.block _ (zF e1) (h.ap c' c 1 3 hc' hc (by omega) (by omega) (.inr (by omega))) (h.ap c' c 1 4 hc' hc (by omega) (by omega) (.inr (by omega))))
      (hf.block _ (zF e2) (h.ap c' c 2 3 hc' hc (by omega) (by omega) (.inr (by omega))) (h.ap c' c 2 4 hc' hc (by omega) (by omega) (.inr (by omega))))
  · by_cases e : c' = c
    · subst e
      rw [show qX Qo c' q c' = q from if_pos rfl]
      exact hw
    · rw [show qX Qo c q c' = Qo c' from if_neg e]
      obtain ⟨j1, j2⟩ := jr (h.rg c' hc')
      obtain ⟨_, _, e1⟩ := j1; obtain ⟨_, _, e2⟩ := j2
      exact (h.rg c' hc').keep (hf.block _ (zF e1) (h.ap c' c 3 3 hc' hc (by omega) (by omega) (.inl e)) (h.ap c' c 3 4 hc' hc (by omega) (by omega) (.inl e)))
        (hf.block _ (zF e2) (h.ap c' c 4 3 hc' hc (by omega) (by omega) (.inl e)) (h.ap c' c 4 4 hc' hc (by omega) (by omega) (.inl e)))
end
def TG : List Nat := [133, 125, 118, 182, 210, 184, 186, 5, 98, 128]
def TGL : List Nat := [133, 125, 118, 182, 210, 78, 208, 81, 184, 186, 5, 98, 128]
section
variable {w w0 w1 W W1 : World} {B N N' : Nat} {x : Ix} {g g' : Sg} {gb dk n : Nat} {L : Nat → Nat → Nat} {Qi Qo Qi' Qo' : Nat → List Int}
theorem zQ.chT {T : List Nat} (h : zQ w B N x g gb dk n L Qi Qo) (hc : Ch T [] B w w1) (hT : ∀ t, t ∈ TGL → t ∉ T) : zQ w1 B N x g gb dk n L Qi Qo := by
  obtain ⟨cs, m, gr, o, h1, h2, h3⟩ := h.blk
  have kp : ∀ {b t : Nat}, (∃ cs f, w.heap[b]? = some (.cells cs t f)) → t ∈ TGL → w1.heap[b]? = w.heap[b]? := fun ⟨cs, f, e⟩ ht => (hc.cell e (hT _ ht)).trans e.symm
  refine ⟨⟨cs, m, gr, o, hc.cell h1 (hT _ (by decide)), h2, h3.chT hc (hT _ (by decide)) (hT _ (by decide))⟩, ⟨hc.cell h.desk.blk (hT _ (by decide)), h.desk.le⟩, h.slv.chT hc (fun t ht => hT t (by simp only [TL, TGL, List.mem_cons, List.not_mem_nil, or_false] at ht ⊢; rcases ht with h | h | h | h | h | h | h <;> simp [h])), fun c hcn => ?_, fun c hcn => ?_, h.lo, h.ap⟩
  · obtain ⟨k0, k1, k2⟩ := qf (h.fl c hcn)
    exact yM.keep (h.fl c hcn) (kp k0 (by decide)) (kp k1 (by decide)) (kp k2 (by decide))
  · obtain ⟨k1, k2⟩ := jr (h.rg c hcn)
    exact (h.rg c hcn).keep (kp k1 (by decide)) (kp k2 (by decide))
structure xh (B N : Nat) (x : Ix) (g : Sg) (gb dk n : Nat) (L : Nat → Nat → Nat) (Qi Qo : Nat → List Int) (w0 W : World) (b1 b2 : Nat) : Prop where
  gt : zQ W B N x g gb dk n L Qi Qo
  ch : Ch TG (MS x) B w0 W
  le : B ≤ w0.heap.size
  t1 : ∃ cs t f, W.heap[b1]? = some (.cells cs t f) ∧ t ∉ TGL
  t2 : ∃ cs t f, W.heap[b2]? = some (.cells cs t f) ∧ t ∉ TGL
  n1 : w0.heap.size ≤ b1
  n2 : w0.heap.size ≤ b2
theorem JO {W : World} {b b' j : Nat} {v : Value} (h : ∃ cs t f, W.heap[b]? = some (.cells cs t f) ∧ t ∉ TGL) : ∃ cs t f, (W.setCell ⟨b', j, none⟩ v).heap[b]? = some (.cells cs t f) ∧ t ∉ TGL := by
  obtain ⟨cs, t, f, h1, h2⟩ := h
  by_cases e : b = b'
  · subst e
    have hlt := zF h1
    have hx := (Array.getElem?_eq_some_iff.1 h1).2
    exact ⟨cs.setIfInBounds j v, t, f, by simp [World.setCell, hlt, Array.getElem_modify, hx], h2⟩
  · exact ⟨cs, t, f, (Below.heap_setCell W ⟨b', j, none⟩ v b e).trans h1, h2⟩
theorem xh.set {b1 b2 b j : Nat} {v : Value} (h : xh B N x g gb dk n L Qi Qo w0 W b1 b2) (hb : b = b1 ∨ b = b2) : xh B N x g gb dk n L Qi Qo w0 (W.setCell ⟨b, j, none⟩ v) b1 b2 := by
  have ht : ∃ cs t f, W.heap[b]? = some (.cells cs t f) ∧ t ∉ TGL := hb.elim (fun e => e ▸ h.t1) (fun e => e ▸ h.t2)
  have hn : w0.heap.size ≤ b := hb.elim (fun e => e ▸ h.n1) (fun e => e ▸ h.n2)
  obtain ⟨cs, t, f, h1, h2⟩ := ht
  have hB : B ≤ b := Nat.le_trans h.le hn
  refine ⟨h.gt.chT (Ch.set (T := [t]) (M := []) h1 (by simp) hB (fun m hm => by cases hm) v) (fun q hq hm => by
    rw [List.mem_singleton] at hm
    subst hm
    exact h2 hq), ⟨h.ch.os, h.ch.tape, h.ch.output, ?_, fun i hi => ?_, h.ch.isMap, fun i hi hm ht => ?_⟩, h.le, JO h.t1, JO h.t2, h.n1, h.n2⟩
  · have := h.ch.size
    simpa [World.setCell] using this
  · exact (Below.heap_setCell W ⟨b, j, none⟩ v i (by show i ≠ b; omega)).trans (h.ch.low i hi)
  · exact (Below.heap_setCell W ⟨b, j, none⟩ v i (by show i ≠ b; omega)).trans (h.ch.block i hi hm ht)
theorem WC {t : Nat} (h : t ∉ TGL) : t ∉ TG := fun ht => h (by simp only [TG, TGL, List.mem_cons, List.not_mem_nil, or_false] at ht ⊢; rcases ht with h | h | h | h | h | h | h | h | h | h <;> simp [h])
theorem xh.step {b1 b2 : Nat} (h : xh B N x g gb dk n L Qi Qo w0 W b1 b2) (hs : zQ W1 B N' x g' gb dk n L Qi' Qo') (hc : Ch TG (MS x) B W W1) : xh B N' x g' gb dk n L Qi' Qo' w0 W1 b1 b2 := by
  obtain ⟨c1, t1, f1, e1, n1⟩ := h.t1
  obtain ⟨c2, t2, f2, e2, n2⟩ := h.t2
  exact ⟨hs, h.ch.trans hc, h.le, ⟨c1, t1, f1, hc.cell e1 (WC n1), n1⟩, ⟨c2, t2, f2, hc.cell e2 (WC n2), n2⟩, h.n1, h.n2⟩
theorem zQ.chb (h : zQ w B N x g gb dk n L Qi Qo) (hb : Below w.heap.size w w1) : Ch TG (MS x) B w w1 := Ch.of_below hb h.slv.lt h.slv.isMap
theorem xh.below {b1 b2 : Nat} (h : xh B N x g gb dk n L Qi Qo w0 W b1 b2) (hb : Below W.heap.size W W1) : xh B N x g gb dk n L Qi Qo w0 W1 b1 b2 := h.step (h.gt.below hb) (h.gt.chb hb)
theorem xh.mk' {b1 b2 t1 t2 : Nat} {c1 c2 : Array Value} {f1 f2 : Nat × Nat} (h0 : zQ w0 B N x g gb dk n L Qi Qo) (hb : Below w0.heap.size w0 W) (e1 : W.heap[b1]? = some (.cells c1 t1 f1)) (e2 : W.heap[b2]? = some (.cells c2 t2 f2)) (n1 : w0.heap.size ≤ b1) (n2 : w0.heap.size ≤ b2) (h1 : t1 ∉ TGL) (h2 : t2 ∉ TGL) : xh B N x g gb dk n L Qi Qo w0 W b1 b2 :=
  ⟨h0.below hb, h0.chb hb, h0.slv.lt, ⟨c1, t1, f1, e1, h1⟩, ⟨c2, t2, f2, e2, h2⟩, n1, n2⟩
theorem zQ.flowC (h : zQ w B N x g gb dk n L Qi Qo) {c : Nat} (hc : c < n) (hf : Fr3 (L c 0) (L c 1) (L c 2) w w1) : Ch TG (MS x) B w w1 := by
  obtain ⟨k0, k1, k2⟩ := qf (h.fl c hc)
  exact (Qt hf ⟨(h.lo c 0 hc (by omega)).1, k0⟩ ⟨(h.lo c 1 hc (by omega)).1, k1⟩ ⟨(h.lo c 2 hc (by omega)).1, k2⟩ h.slv.lt).mono (by decide) (fun m hm => by cases hm) h.slv.isMap
theorem zQ.ringC (h : zQ w B N x g gb dk n L Qi Qo) {c : Nat} (hc : c < n) (hf : Fr2 (L c 3) (L c 4) w w1) : Ch TG (MS x) B w w1 := by
  obtain ⟨k1, k2⟩ := jr (h.rg c hc)
  obtain ⟨k0, _, _⟩ := qf (h.fl c hc)
  exact (Qt (a := L c 0) (Fr3.of_fr2 hf) ⟨(h.lo c 0 hc (by omega)).1, k0⟩ ⟨(h.lo c 3 hc (by omega)).1, k1⟩ ⟨(h.lo c 4 hc (by omega)).1, k2⟩ h.slv.lt).mono (by decide) (fun m hm => by cases hm) h.slv.isMap
theorem zaF (h : Ch TS (MS x) B w w1) : Ch TG (MS x) B w w1 := h.mono (by decide) (fun _ hm => hm) h.isMap
theorem zQ.cells (h : zQ w B N x g gb dk n L Qi Qo) : w.cell? ⟨gb, 13, none⟩ = some (.pointer (some ⟨dk, 0, none⟩)) ∧ w.cell? ⟨gb, 14, none⟩ = some (.pointer (some ⟨x.ss, 0, none⟩)) ∧ ∀ c, c < n → w.cell? ⟨gb, 15 + 2 * c, none⟩ = some (.pointer (some ⟨L c 0, 0, none⟩)) ∧ w.cell? ⟨gb, 16 + 2 * c, none⟩ = some (.pointer (some ⟨L c 3, 0, none⟩)) := by
  obtain ⟨cs, m, gr, o, h1, h2, h3⟩ := h.blk
  exact ⟨(za h1 13).trans h2.dk, (za h1 14).trans h2.ss, fun c hc => ⟨(za h1 _).trans (h2.ln c hc).1, (za h1 _).trans (h2.ln c hc).2⟩⟩
end
theorem jS (w : World) (B N : Nat) (x : Ix) (g : Sg) (gb dk n : Nat) (L : Nat → Nat → Nat) (Qi Qo : Nat → List Int) (h : zQ w B N x g gb dk n L Qi Qo) (c : Nat) (hc : c < n) :
    Calls Tryz.prog 58 #[.pointer (some ⟨gb, 0, none⟩), .int .i64 (c : Int)] w fun e w' => e = .returned (.int .i64 1) ∧ Below w.heap.size w w' := by
  have hu98 := Tryz.underlying98
  obtain ⟨c13, _, _⟩ := h.cells
  have hD := Ko w dk n h.desk c (by have := h.desk.le; omega)
  rw [if_pos hc] at hD
  clear h hc
  go_enter Tryz.func58, Tryz.ntmps58
  go_wp2_with (fail)
  refine hD.mono ?_
  rintro e w2 ⟨rfl, hb⟩
  have HB := hQ hb
  clear hb
  go_wp2
  go_ret
  exact ⟨rfl, HB.out⟩
theorem Zk (w : World) (B N : Nat) (x : Ix) (g : Sg) (gb dk n : Nat) (L : Nat → Nat → Nat) (Qi Qo : Nat → List Int) (h : zQ w B N x g gb dk n L Qi Qo) :
    Calls Tryz.prog 20 #[.pointer (some ⟨gb, 0, none⟩)] w fun e w' => e = .returned (.pointer (some ⟨x.st, 0, none⟩)) ∧ Below w.heap.size w w' := by
  have hu98 := Tryz.underlying98
  obtain ⟨_, c14, _⟩ := h.cells
  have H := hQ h
  clear h
  go_enter Tryz.func20, Tryz.ntmps20
  go_wp2_with (fail)
  refine (Jg w B N x.ss x.en x.bk x.ms x.ticks g.ses H.out.slv.ss).mono ?_
  rintro e w2 ⟨rfl, hb⟩
  have HB := hQ hb
  have H2 := hQ (H.out.below hb)
  clear hb
  go_wp2_with (fail)
  refine (ZO w2 B N x.en x.st x.me x.most x.spans x.writes g.nv g.vs H2.out.slv.en).mono ?_
  rintro e w3 ⟨rfl, hb⟩
  have HC := hQ (ze HB.out HB.out.size hb)
  clear hb
  go_wp2
  go_ret
  exact ⟨rfl, HC.out⟩
open Go.Proofs.YtlalbohhopmpdaaGreat.Ring (yM yw Fr2 Fr3 XN vS)
theorem xh.both {B N : Nat} {x : Ix} {g : Sg} {gb dk n : Nat} {L : Nat → Nat → Nat} {Qi Qo : Nat → List Int} {w0 W : World} {b1 b2 : Nat} (h : xh B N x g gb dk n L Qi Qo w0 W b1 b2) : zQ W B N x g gb dk n L Qi Qo ∧ Ch TG (MS x) B w0 W := ⟨h.gt, h.ch⟩
theorem kK {w : World} {g t : Nat} {v0 v1 v2 : Value} (h : w.heap[g]? = some (.cells #[v0, v1, v2] t (0, 0))) : w.cell? ⟨g, 0, none⟩ = some v0 ∧ w.cell? ⟨g, 1, none⟩ = some v1 ∧ w.cell? ⟨g, 2, none⟩ = some v2 := ⟨za h 0, za h 1, za h 2⟩
theorem Ky (w : World) (B N : Nat) (x : Ix) (g : Sg) (gb dk n : Nat) (L : Nat → Nat → Nat) (Qi Qo : Nat → List Int) (h : zQ w B N x g gb dk n L Qi Qo) (c : Nat) (hc : c < n) (A0 : Option Addr) (k c0 : Nat) (l : List Int) (hk : k = l.length) (hr : Kd.C (Kd.int .u8) w A0 k l) (hc0 : k ≤ c0) (hne : 0 < k → ∀ a, A0 = some a → a.block ≠ L c 2) (hroom : (Qi c).length + k ≤ 1024) :
    Calls Tryz.prog 32 #[.pointer (some ⟨gb, 0, none⟩), .int .i64 (c : Int), .slice A0 k c0] w fun e w' => e = .returned (.agg #[.bool true, .int .i64 (k : Int), .slice none 0 0]) ∧ zQ w' B N x g gb dk n L (qX Qi c (Qi c ++ l)) Qo ∧ Ch TG (MS x) B w w' := by
  have hu98 := Tryz.underlying98
  have hu96 := Tryz.underlying96
  have hu95 := Tryz.underlying95
  have hu61 := Tryz.underlying61
  have B1 := hQ (show Below w.heap.size w (w.alloc (.cells #[.bool false, .int .i64 0, .slice none 0 0] 61)) from (Below.refl _ _).alloc (Nat.le_refl _) _)
  have X1 := hQ (zi w (.cells #[.bool false, .int .i64 0, .slice none 0 0] 61))
  have H1 := hQ (h.below B1.out)
  have L1 := hQ (xh.mk' h B1.out X1.out X1.out (by omega) (by omega) (by decide) (by decide))
  have HS := fun (W : World) (hW : zQ W B N x g gb dk n L Qi Qo) => jS W B N x g gb dk n L Qi Qo hW c hc
  have HF := fun (W : World) (hW : zQ W B N x g gb dk n L Qi Qo) (hR : Kd.C (Kd.int .u8) W A0 k l) => XN W (L c 0) (L c 1) (L c 2) 1024 (Qi c) false (hW.fl c hc) A0 k c0 l hk hR hc0 hne k (by simp; omega)
  have ht : l.take k = l := by rw [hk, List.take_length]
  rw [ht] at HF
  have C1 := hQ (Kd.zz hr B1.out)
  have hn3 := h.desk.le
  have HC := hQ hc
  have hcells := fun (W : World) (hW : zQ W B N x g gb dk n L Qi Qo) => (hW.cells.2.2 c hc).1
  have hfl := fun (W W' : World) (hW : zQ W B N x g gb dk n L Qi Qo) (q : List Int) (hw : yM W' (L c 0) (L c 1) (L c 2) 1024 q false) (hf : Fr3 (L c 0) (L c 1) (L c 2) W W') => And.intro (hW.flow hc hw hf) (hW.flowC hc hf)
  clear h hr hk hne hroom ht
  obtain rfl | rfl | rfl : c = 0 ∨ c = 1 ∨ c = 2 := by omega
  all_goals
    clear hc hn3
    go_enter Tryz.func32, Tryz.ntmps32
    go_wp2_with (fail)
    refine (HS _ H1.out).mono ?_
    rintro e w2 ⟨rfl, hb⟩
    have L2 := hQ (L1.out.below hb)
    have X2 := hQ (zb X1.out hb)
    have C2 := hQ (Kd.zz C1.out hb)
    clear hb
    have p0 := hcells _ L2.out.gt
    simp only [Nat.mul_zero, Nat.add_zero, Nat.mul_one, Nat.reduceMul, Nat.reduceAdd] at p0
    go_wp2_with (fail)
    refine (HF _ L2.out.gt C2.out).mono ?_
    rintro e w3 ⟨rfl, hw, hf⟩
    obtain ⟨hg3, hc3⟩ := hfl _ _ L2.out.gt _ hw (Fr3.of_fr2 hf)
    have L3 := hQ (L2.out.step hg3 hc3)
    have X3 := hQ (hc3.cell X2.out (by decide))
    clear hw hf hg3 hc3 p0
    obtain ⟨x0, x1, x2⟩ := kK X3.out
    have fx : ∀ i, w3.frozen? ⟨w.heap.size, i, none⟩ = false := fun i => zh X3.out i
    go_wp2
    refine bodyPost_ret (v := .agg #[.bool true, .int .i64 (k : Int), .slice none 0 0]) ?_ rfl ⟨rfl, ?_⟩
    · simp [results, Tryz.results32, go_sem, hu61, x0, x1, x2]
    · refine xh.both (b1 := w.heap.size) (b2 := w.heap.size) ?_
      repeat (with_reducible first | exact L3.out | (refine xh.set ?_ (Or.inl rfl)))
theorem KH (w : World) (B N : Nat) (x : Ix) (g : Sg) (gb dk n : Nat) (L : Nat → Nat → Nat) (Qi Qo : Nat → List Int) (h : zQ w B N x g gb dk n L Qi Qo) (c : Nat) (hc : c < n) (k : Nat) (hk : k = (Qo c).length) :
    Calls Tryz.prog 34 #[.pointer (some ⟨gb, 0, none⟩), .int .i64 (c : Int), .int .i64 65536] w fun e w' => ∃ A c0, e = .returned (.agg #[.bool true, .int .i64 (k : Int), .slice A k c0]) ∧ k ≤ c0 ∧ Kd.F (Kd.int .u8) w' (fun k => w.heap.size ≤ k) A k (Qo c) ∧ zQ w' B N x g gb dk n L Qi (qX Qo c []) ∧ Ch TG (MS x) B w w' := by
  have hu98 := Tryz.underlying98
  have hu96 := Tryz.underlying96
  have hu95 := Tryz.underlying95
  have hu61 := Tryz.underlying61
  have B1 := hQ (show Below w.heap.size w (w.alloc (.cells #[.bool false, .int .i64 0, .slice none 0 0] 61)) from (Below.refl _ _).alloc (Nat.le_refl _) _)
  have X1 := hQ (zi w (.cells #[.bool false, .int .i64 0, .slice none 0 0] 61))
  have H1 := hQ (h.below B1.out)
  have L1 := hQ (xh.mk' h B1.out X1.out X1.out (by omega) (by omega) (by decide) (by decide))
  have hle := (h.rg c hc).le
  have ht : (Qo c).take (65536 : Int).toNat = Qo c := List.take_of_length_le (by omega)
  have hd : (Qo c).drop (65536 : Int).toNat = [] := List.drop_eq_nil_of_le (by omega)
  have HS := fun (W : World) (hW : zQ W B N x g gb dk n L Qi Qo) => jS W B N x g gb dk n L Qi Qo hW c hc
  have HF := fun (W : World) (hW : zQ W B N x g gb dk n L Qi Qo) => vS W (L c 3) (L c 4) 1024 (Qo c) (hW.rg c hc) 65536 k (by rw [ht]; exact hk)
  rw [ht, hd] at HF
  have hn3 := h.desk.le
  have hcells := fun (W : World) (hW : zQ W B N x g gb dk n L Qi Qo) => (hW.cells.2.2 c hc).2
  have hfl := fun (W W' : World) (hW : zQ W B N x g gb dk n L Qi Qo) (q : List Int) (hw : yw W' (L c 3) (L c 4) 1024 q) (hf : Fr2 (L c 3) (L c 4) W W') => And.intro (hW.ring hc hw hf) (hW.ringC hc hf)
  clear h hk ht hd hle
  obtain rfl | rfl | rfl : c = 0 ∨ c = 1 ∨ c = 2 := by omega
  all_goals
    clear hc hn3
    go_enter Tryz.func34, Tryz.ntmps34
    go_wp2_with (fail)
    refine (HS _ H1.out).mono ?_
    rintro e w2 ⟨rfl, hb⟩
    have L2 := hQ (L1.out.below hb)
    have X2 := hQ (zb X1.out hb)
    clear hb
    have p0 := hcells _ L2.out.gt
    simp only [Nat.mul_zero, Nat.add_zero, Nat.mul_one, Nat.reduceMul, Nat.reduceAdd] at p0
    go_wp2_with (fail)
    refine (HF _ L2.out.gt).mono ?_
    rintro e w3 ⟨A3, c3, rfl, hR, hw, hf⟩
    obtain ⟨hg3, hc3⟩ := hfl _ _ L2.out.gt _ hw hf
    have L3 := hQ (L2.out.step hg3 hc3)
    have X3 := hQ (hc3.cell X2.out (by decide))
    have F3 := hQ (Kd.qx (Kd.R_F (Kd.xW hR)) (ok' := fun k => w2.heap.size ≤ k) (fun k hk => hk.2.1))
    have C3 := hQ (Kd.zw hR).2.1
    have S2 := hQ (zF X2.out)
    clear hw hf hg3 hc3 p0 hR
    obtain ⟨x0, x1, x2⟩ := kK X3.out
    have fx : ∀ i, w3.frozen? ⟨w.heap.size, i, none⟩ = false := fun i => zh X3.out i
    go_wp2
    refine bodyPost_ret (v := .agg #[.bool true, .int .i64 (k : Int), .slice A3 k c3]) ?_ rfl ⟨A3, c3, rfl, C3.out, ?_, ?_⟩
    · simp [results, Tryz.results34, go_sem, hu61, x0, x1, x2]
    · have s2 := S2.out
      refine Kd.qx (ok := fun k => w2.heap.size ≤ k) ?_ (fun k hk => by omega)
      repeat (with_reducible first | exact F3.out | (refine jR ?_ s2))
    · refine xh.both (b1 := w.heap.size) (b2 := w.heap.size) ?_
      repeat (with_reducible first | exact L3.out | (refine xh.set ?_ (Or.inl rfl)))
end Go.Proofs.YtlalbohhopmpdaaGreat.Top
namespace Go.Proofs.YtlalbohhopmpdaaGreat.PTop
open Go.RowKit Go.YW.PrintWords Go.YW.PrintLast Go.YW.PrintMore
attribute [local go_sem] yU yT xE xC xe yZ xJ xK zm zu   -- for this text's walks alone
def yC.f (l0 : List Int) : Option (List Int) := if l0.length < 140737488355328 then some l0 else none
theorem yC.calls (A0 : Option Addr) (c0 : Nat) (l0 : List Int) (r : List Int) (w : World) (hr0 : Kd.C (Kd.int .u8) w A0 l0.length l0) (hc0 : l0.length ≤ c0) (h : yC.f l0 = some r) :
  Calls Tryz.prog 159 #[.slice A0 l0.length c0] w fun e w' => ∃ v0_ : Value, e = .returned (v0_) ∧ Kd.R (Kd.int .u8) 5 w' w.heap.size (fun _ => True) v0_ r ∧ Below w.heap.size w w' := by
 unfold yC.f at h
 split at h
 ·
  rename_i hlt
  obtain rfl := Option.some.inj h
  clear h
  cases A0 with
  | none =>
   have hl : l0 = [] := by
    rcases Nat.eq_zero_or_pos l0.length with h0 | h0
    ·
     exact List.eq_nil_of_length_eq_zero h0
    ·
     obtain ⟨ad, e, _⟩ := hr0.2.2 h0
     cases e
   subst hl
   have hnil := @Lib.run_eql_slice_nil Tryz.prog
   go_enter Tryz.func159, Tryz.ntmps159
   go_wp2
   go_ret
   exact ⟨_, rfl, Kd.xM _ _ _ _ _, Below.refl _ _⟩
  | some a0 =>
   have hnil := @Lib.run_eql_slice_nil Tryz.prog
   go_enter Tryz.func159, Tryz.ntmps159
   have HR := zf.mk hr0
   have HL := zf.mk hlt
   clear hr0 hlt
   go_wp2_with (first | ((with_reducible refine zS (N := 5) rfl ?_); refine Kd.kU (Kd.int .u8) (w0 := w) w.heap.size 5 ?hg (N := 5) ?hd (xs := ([] : List Int)) (inner := []) (ok := fun _ => True) (okp := fun _ => True) ?hr (yK.none _ _) (fun _ h => h) trivial (Below.refl _ _) (Nat.le_refl _) (by simp) ?_; (case hd => rfl); (case hg => rfl); (case hr => first | (go_simp; done) | (go_simp; rfl)); intro v1 w1 ho hb hg_ _; have HO := zf.mk ho; have HB := zf.mk hb; clear ho hb hg_) | ((with_reducible refine zZ (b := .append) (xs := #[.tmp 5, .tmp 6]) (ts := #[59, 59]) rfl ?_); refine Kd.yA (Kd.int .u8) (w0 := w) w.heap.size rfl (.tmp 5) (.tmp 6) 59 5 (.int .u8 0) 1 rfl Tryz.underlying59 info5 rfl (by decide) (by omega) _ ([] : List Int) l0 _ _ _ (fun _ => True) (fun _ => False) rfl rfl HO.out (Kd.zz HR.out HB.out) (fun _ _ h => h) (fun _ h => h.elim) (fun _ _ => trivial) HB.out HB.out.size ?aL ?_; (case aL => have := HL.out; simp; omega); intro v2 w2 ho hb hg_ _; have HO2 := zf.mk ho; have HB2 := zf.mk hb; clear ho hb hg_))
   go_ret
   exact ⟨_, rfl, by have := HO2.out; simpa using this, HB2.out⟩
 ·
  cases h
end Go.Proofs.YtlalbohhopmpdaaGreat.PTop
namespace Go.Proofs.YtlalbohhopmpdaaGreat.PTop
open Go.Proofs.YtlalbohhopmpdaaGreat.Tiny
open Go.RowKit Go.YW.PrintWords Go.YW.PrintLast Go.YW.PrintMore
attribute [local go_sem] yU yT xE xC xe yZ xJ xK zm zu   -- for this text's walks alone
attribute [local go_sem high] zaT
def yh.j0 : Nat → List Int → Bool → Int → Int → Int → Option (Int × Int × Int × Int)
 | 0, _, _, _, _, _ => none
 | k + 1, x0, x42, x185000, x185001, x185002 => if x42 = true then (some (0, 0, 0, 2)) else (if (x0.length : Int) < 7 then (some (0, 0, 0, 3)) else (if 6 < (x0.length : Int) then (some (x185000, x185001, wrap64 (rd x0 6), 0)) else (none)))
def yh.f (k : Nat) (l0 : List Int) : Option (Int × Int × Int × Int) := if (l0.length : Int) < 6 then (some (0, 0, 0, 3)) else ((yR.f l0 0).bind fun bt178 => ((yR.f l0 2).bind fun bt180 => ((yR.f l0 4).bind fun bt182 => (if bt180.1 = 0 then ((xL.f (wrap64 (bt178.1)) (wrap64 (bt182.1)) 0).bind fun bt185 => (yh.j0 k l0 (!((wrap64 (bt178.1)) == bt185.1) || (!((wrap64 (bt182.1)) == bt185.2.1) || (!(0 == bt185.2.2)))) (wrap64 (bt178.1)) (wrap64 (bt182.1)) 0)) else (yh.j0 k l0 true (wrap64 (bt178.1)) (wrap64 (bt182.1)) 0)))))
def yh.T7 : Bool × List (List Nat × List Nat) := (true, [([], []), ([0], [0]), ([1], [1]), ([2], [2]), ([2], [2]), ([4, 2, 2], [2, 4]), ([3, 5, 2], [2, 3, 5]), ([2, 6], [2, 6])])
def yh.B7 : List Nat := [0, 1, 3, 7, 7, 23, 63, 127]
theorem yh.tab7 : jG .any (opsOf Tryz.f158 7) = yh.T7 := by kernel_rfl
theorem yh.bits7 : jN yh.T7.2 yh.B7 = true := by kernel_rfl
theorem yh.calls (k : Nat) (A0 : Option Addr) (c0 : Nat) (l0 : List Int) (r1 : Int) (r2 : Int) (r3 : Int) (r4 : Int) (w : World) (hr0 : Kd.C (Kd.int .u8) w A0 l0.length l0) (hc0 : l0.length ≤ c0) (h : yh.f k l0 = some (r1, r2, r3, r4)) :
  Calls Tryz.prog 158 #[.slice A0 l0.length c0] w fun e w' => e = .returned (.tuple #[.agg #[.int .i64 r1, .int .i64 r2, .int .i64 r3], .int .i64 r4]) ∧ Below w.heap.size w w' := by
 have hu201 := Tryz.underlying201
 have HR0 := zf.mk hr0
 have HC0 := zf.mk hc0
 clear hr0 hc0
 have HB := zf.mk (Below.refl w.heap.size w)
 have H : (if (l0.length : Int) < 6 then (some (0, 0, 0, 3)) else ((yR.f l0 0).bind fun bt178 => ((yR.f l0 2).bind fun bt180 => ((yR.f l0 4).bind fun bt182 => (if bt180.1 = 0 then ((xL.f (wrap64 (bt178.1)) (wrap64 (bt182.1)) 0).bind fun bt185 => (yh.j0 k l0 (!((wrap64 (bt178.1)) == bt185.1) || (!((wrap64 (bt182.1)) == bt185.2.1) || (!(0 == bt185.2.2)))) (wrap64 (bt178.1)) (wrap64 (bt182.1)) 0)) else (yh.j0 k l0 true (wrap64 (bt178.1)) (wrap64 (bt182.1)) 0)))))) = some (r1, r2, r3, r4) := h
 clear h
 by_cases c2 : (l0.length : Int) < 6
 ·
  rw [if_pos c2] at H
  have c2b0 : decide ((l0.length : Int) < 6) = true := dT c2
  have c2b1 : decide (l0.length < 6) = true := decide_eq_true (by omega)
  clear c2
  simp only [Option.some.injEq, Prod.mk.injEq] at H
  obtain ⟨rfl, rfl, rfl, rfl⟩ := H
  go_enter Tryz.func158, Tryz.ntmps158
  go_wp2_with (first | ((with_reducible refine zS (N := 2) rfl ?_); refine yt ?hg (N := 2) ?hd (cs := #[.int .i64 0, .int .i64 0, .int .i64 0]) (t := 201) ?hr ?_; (case hd => rfl); (case hg => rfl); (case hr => first | (go_simp; done) | (go_simp; rfl)); intro gb177 hg w3 hbox hb; have BK177 := zf.mk (hbox); have GW177 := zf.mk ((by rw [hg]; exact (zq (HB.out)) : w.heap.size ≤ gb177)); have GE177 := zf.mk ((by rw [hg]; exact (zq (HB.out)) : w.heap.size ≤ gb177)); replace HB := zf.mk (zH (HB.out) hb); clear hb hbox hg; obtain ⟨hcz4_0, hcz4_1, hcz4_2⟩ := zV BK177.out; obtain ⟨hfz4_0, hfz4_1, hfz4_2⟩ := xq BK177.out))
  refine bodyPost_ret (qH rfl _ _ gb177 201 #[.int .i64 0, .int .i64 0, .int .i64 0] (0, 0) _ rfl (by (with_reducible repeat (first | refine zl ?_ _ | refine zo ?_ | refine zg ?_ _)); refine zO (cs := #[.int .i64 0, .int .i64 0, .int .i64 0]) ?_ 2 _ rfl; (with_reducible repeat (first | refine zl ?_ _ | refine zo ?_ | refine zg ?_ _)); refine zO (cs := #[.int .i64 0, .int .i64 0, .int .i64 0]) ?_ 1 _ rfl; (with_reducible repeat (first | refine zl ?_ _ | refine zo ?_ | refine zg ?_ _)); refine zO (cs := #[.int .i64 0, .int .i64 0, .int .i64 0]) ?_ 0 _ rfl; (with_reducible repeat (first | refine zl ?_ _ | refine zo ?_ | refine zg ?_ _)); exact BK177.out) Tryz.underlying201 rfl (by kernel_rfl)) rfl ?_
  exact ⟨by first | rfl | (simp [zD, zC] <;> rfl) | (simp [*, zD, zC] <;> rfl), by repeat (first | (with_reducible first | exact HB.out | apply zn | apply zt | apply zM | refine zP ?_ GE177.out) | exact HB.out)⟩
 ·
  rw [if_neg c2] at H
  have c2b0 : decide ((l0.length : Int) < 6) = false := dF c2
  have c2b1 : decide (l0.length < 6) = false := decide_eq_false (by omega)
  clear c2
  replace H := Option.bind_eq_some_iff.mp H
  obtain ⟨⟨t178, t179⟩, A50, H⟩ := H
  replace H : ((yR.f l0 2).bind fun bt180 => ((yR.f l0 4).bind fun bt182 => (if bt180.1 = 0 then ((xL.f (wrap64 (t178)) (wrap64 (bt182.1)) 0).bind fun bt185 => (yh.j0 k l0 (!((wrap64 (t178)) == bt185.1) || (!((wrap64 (bt182.1)) == bt185.2.1) || (!(0 == bt185.2.2)))) (wrap64 (t178)) (wrap64 (bt182.1)) 0)) else (yh.j0 k l0 true (wrap64 (t178)) (wrap64 (bt182.1)) 0)))) = some (r1, r2, r3, r4) := H
  have A5 := zf.mk A50
  clear A50
  replace H := Option.bind_eq_some_iff.mp H
  obtain ⟨⟨t180, t181⟩, A60, H⟩ := H
  replace H : ((yR.f l0 4).bind fun bt182 => (if t180 = 0 then ((xL.f (wrap64 (t178)) (wrap64 (bt182.1)) 0).bind fun bt185 => (yh.j0 k l0 (!((wrap64 (t178)) == bt185.1) || (!((wrap64 (bt182.1)) == bt185.2.1) || (!(0 == bt185.2.2)))) (wrap64 (t178)) (wrap64 (bt182.1)) 0)) else (yh.j0 k l0 true (wrap64 (t178)) (wrap64 (bt182.1)) 0))) = some (r1, r2, r3, r4) := H
  have A6 := zf.mk A60
  clear A60
  replace H := Option.bind_eq_some_iff.mp H
  obtain ⟨⟨t182, t183⟩, A70, H⟩ := H
  replace H : (if t180 = 0 then ((xL.f (wrap64 (t178)) (wrap64 (t182)) 0).bind fun bt185 => (yh.j0 k l0 (!((wrap64 (t178)) == bt185.1) || (!((wrap64 (t182)) == bt185.2.1) || (!(0 == bt185.2.2)))) (wrap64 (t178)) (wrap64 (t182)) 0)) else (yh.j0 k l0 true (wrap64 (t178)) (wrap64 (t182)) 0)) = some (r1, r2, r3, r4) := H
  have A7 := zf.mk A70
  clear A70
  have HC8 := zf.mk H
  clear H
  go_enter Tryz.func158, Tryz.ntmps158
  go_upto_region 7 with (first | ((with_reducible refine zS (N := 2) rfl ?_); refine yt ?hg (N := 2) ?hd (cs := #[.int .i64 0, .int .i64 0, .int .i64 0]) (t := 201) ?hr ?_; (case hd => rfl); (case hg => rfl); (case hr => first | (go_simp; done) | (go_simp; rfl)); intro gb177 hg w9 hbox hb; have BK177 := zf.mk (hbox); have GW177 := zf.mk ((by rw [hg]; exact (zq (HB.out)) : w.heap.size ≤ gb177)); have GE177 := zf.mk ((by rw [hg]; exact (zq (HB.out)) : w.heap.size ≤ gb177)); replace HB := zf.mk (zH (HB.out) hb); clear hb hbox hg) | ((with_reducible refine yg (f := 202) rfl ?_); refine xI (some 17) rfl rfl Tryz.func202 (by kernel_rfl) rfl #[.slice A0 l0.length c0, .int .i64 0] rfl (by (try simp only [List.map_toArray, List.map_cons, List.map_nil]); first | done | rfl | (simp only [List.length_drop, List.length_take]; rfl)) ?_; (with_reducible refine (yR.calls _ _ l0 0 t178 t179 _ ?side1 ?side2 A5.out).mono ?_); (case side1 => repeat (first | exact (Kd.zz HR0.out HB.out) | (with_reducible refine Kd.yF ?_ _) | (with_reducible refine Kd.yH ?_ _) | (with_reducible refine Kd.yV ?_))); (case side2 => exact HC0.out); rintro e w' ⟨rfl, ⟨nd, rfl⟩⟩; refine ⟨_, rfl, ?_⟩; (try (rw [qE w9]; generalize hq_ : World.drewN w9 _ = w9; replace BK177 := dqK BK177 hq_; replace HB := dqB HB hq_; clear hq_))) | ((with_reducible refine yg (f := 202) rfl ?_); refine xI (some 22) rfl rfl Tryz.func202 (by kernel_rfl) rfl #[.slice A0 l0.length c0, .int .i64 2] rfl (by (try simp only [List.map_toArray, List.map_cons, List.map_nil]); first | done | rfl | (simp only [List.length_drop, List.length_take]; rfl)) ?_; (with_reducible refine (yR.calls _ _ l0 2 t180 t181 _ ?side1 ?side2 A6.out).mono ?_); (case side1 => repeat (first | exact (Kd.zz HR0.out HB.out) | (with_reducible refine Kd.yF ?_ _) | (with_reducible refine Kd.yH ?_ _) | (with_reducible refine Kd.yV ?_))); (case side2 => exact HC0.out); rintro e w' ⟨rfl, ⟨nd, rfl⟩⟩; refine ⟨_, rfl, ?_⟩; (try (rw [qE w9]; generalize hq_ : World.drewN w9 _ = w9; replace BK177 := dqK BK177 hq_; replace HB := dqB HB hq_; clear hq_))) | ((with_reducible refine yg (f := 202) rfl ?_); refine xI (some 27) rfl rfl Tryz.func202 (by kernel_rfl) rfl #[.slice A0 l0.length c0, .int .i64 4] rfl (by (try simp only [List.map_toArray, List.map_cons, List.map_nil]); first | done | rfl | (simp only [List.length_drop, List.length_take]; rfl)) ?_; (with_reducible refine (yR.calls _ _ l0 4 t182 t183 _ ?side1 ?side2 A7.out).mono ?_); (case side1 => repeat (first | exact (Kd.zz HR0.out HB.out) | (with_reducible refine Kd.yF ?_ _) | (with_reducible refine Kd.yH ?_ _) | (with_reducible refine Kd.yV ?_))); (case side2 => exact HC0.out); rintro e w' ⟨rfl, ⟨nd, rfl⟩⟩; refine ⟨_, rfl, ?_⟩; (try (rw [qE w9]; generalize hq_ : World.drewN w9 _ = w9; replace BK177 := dqK BK177 hq_; replace HB := dqB HB hq_; clear hq_))) | ((with_reducible refine zS (N := 10) rfl ?_); refine yt ?hg (N := 10) ?hd (cs := #[.int .i64 0, .int .i64 0, .int .i64 0]) (t := 201) ?hr ?_; (case hd => rfl); (case hg => rfl); (case hr => first | (go_simp; done) | (go_simp; rfl)); intro gb184 hg w10 hbox hb; have BK184 := zf.mk (hbox); have GW184 := zf.mk ((by rw [hg]; exact (zq (HB.out)) : w.heap.size ≤ gb184)); have GE184 := zf.mk ((by rw [hg]; exact (zq (HB.out)) : w.heap.size ≤ gb184)); replace HB := zf.mk (zH (HB.out) hb); have NB177_184 := zf.mk ((by rw [hg]; exact Nat.ne_of_lt (zF (g := gb177) (o := .cells #[.int .i64 0, .int .i64 0, .int .i64 0] 201 (0, 0)) (BK177.out)) : gb177 ≠ gb184)); have NB184_177 := zf.mk ((by rw [hg]; exact Nat.ne_of_gt (zF (g := gb177) (o := .cells #[.int .i64 0, .int .i64 0, .int .i64 0] 201 (0, 0)) (BK177.out)) : gb184 ≠ gb177)); replace BK177 := zf.mk (zb BK177.out hb); clear hb hbox hg; have hnb11 := NB184_177.out; have hnc11 := NB177_184.out; obtain ⟨hcz12_0, hcz12_1, hcz12_2⟩ := zV BK184.out; obtain ⟨hfz12_0, hfz12_1, hfz12_2⟩ := xq BK184.out))
  (try simp only [Act.put, List.setIfInBounds_toArray, List.set_cons_zero, List.set_cons_succ])
  go_cut [42] (fun v42 wc => ∃ (kq : Nat) (x42_7 : Bool), v42 = .bool x42_7 ∧ zf (yh.j0 kq l0 x42_7 (wrap64 (t178)) (wrap64 (t182)) 0 = some (r1, r2, r3, r4)) ∧ zf (kq ≤ k) ∧ zf (wc.heap[gb177]? = some (.cells #[.int .i64 0, .int .i64 0, .int .i64 0] 201 (0, 0))) ∧ zf (wc.heap[gb184]? = some (.cells #[.int .i64 (wrap64 (t178)), .int .i64 (wrap64 (t182)), .int .i64 0] 201 (0, 0))) ∧ zf (Below w.heap.size w wc))
  case first =>
   have H := HC8.out
   clear HC8
   by_cases c13 : t180 = 0
   ·
    rw [if_pos c13] at H
    have c13b0 : (t180 == 0) = true := beq_iff_eq.mpr c13
    have c13b1 : (t180 != 0) = false := bne_eq_false_iff_eq.mpr c13
    clear c13
    (first | rw [c13b0] | (simp only [yX, xN]; rw [c13b0]) | skip)
    replace H := Option.bind_eq_some_iff.mp H
    obtain ⟨⟨t185, t186, t187⟩, A140, H⟩ := H
    replace H : (yh.j0 k l0 (!((wrap64 (t178)) == t185) || (!((wrap64 (t182)) == t186) || (!(0 == t187)))) (wrap64 (t178)) (wrap64 (t182)) 0) = some (r1, r2, r3, r4) := H
    have A14 := zf.mk A140
    clear A140
    have H' := zf.mk H
    clear H
    try go_wp2
    have n0_ : zf ((((w10.setCell ⟨gb184, 0, none⟩ (.int .i64 (wrap64 (t178)))).setCell ⟨gb184, 1, none⟩ (.int .i64 (wrap64 (t182)))).setCell ⟨gb184, 2, none⟩ (.int .i64 0)).heap[gb177]? = some (.cells #[.int .i64 0, .int .i64 0, .int .i64 0] 201 (0, 0))) := ⟨by (with_reducible repeat (first | refine zl ?_ _ | refine zo ?_ | refine zg ?_ _)); refine yJ ?_ NB177_184.out _; (with_reducible repeat (first | refine zl ?_ _ | refine zo ?_ | refine zg ?_ _)); refine yJ ?_ NB177_184.out _; (with_reducible repeat (first | refine zl ?_ _ | refine zo ?_ | refine zg ?_ _)); refine yJ ?_ NB177_184.out _; (with_reducible repeat (first | refine zl ?_ _ | refine zo ?_ | refine zg ?_ _)); exact BK177.out⟩
    have n1_ : zf ((((w10.setCell ⟨gb184, 0, none⟩ (.int .i64 (wrap64 (t178)))).setCell ⟨gb184, 1, none⟩ (.int .i64 (wrap64 (t182)))).setCell ⟨gb184, 2, none⟩ (.int .i64 0)).heap[gb184]? = some (.cells #[.int .i64 (wrap64 (t178)), .int .i64 (wrap64 (t182)), .int .i64 0] 201 (0, 0))) := ⟨by (with_reducible repeat (first | refine zl ?_ _ | refine zo ?_ | refine zg ?_ _)); refine zO (cs := #[.int .i64 (wrap64 (t178)), .int .i64 (wrap64 (t182)), .int .i64 0]) ?_ 2 _ rfl; (with_reducible repeat (first | refine zl ?_ _ | refine zo ?_ | refine zg ?_ _)); refine zO (cs := #[.int .i64 (wrap64 (t178)), .int .i64 0, .int .i64 0]) ?_ 1 _ rfl; (with_reducible repeat (first | refine zl ?_ _ | refine zo ?_ | refine zg ?_ _)); refine zO (cs := #[.int .i64 0, .int .i64 0, .int .i64 0]) ?_ 0 _ rfl; (with_reducible repeat (first | refine zl ?_ _ | refine zo ?_ | refine zg ?_ _)); exact BK184.out⟩
    have n2_ : zf (Below w.heap.size w (((w10.setCell ⟨gb184, 0, none⟩ (.int .i64 (wrap64 (t178)))).setCell ⟨gb184, 1, none⟩ (.int .i64 (wrap64 (t182)))).setCell ⟨gb184, 2, none⟩ (.int .i64 0))) := ⟨by repeat (first | (with_reducible first | exact HB.out | apply zn | apply zt | apply zM | refine zP ?_ GE177.out | refine zP ?_ GE184.out) | exact HB.out)⟩
    (try clear BK177)
    (try clear BK184)
    (try clear HB)
    first | (rw [qE (((w10.setCell ⟨gb184, 0, none⟩ (.int .i64 (wrap64 (t178)))).setCell ⟨gb184, 1, none⟩ (.int .i64 (wrap64 (t182)))).setCell ⟨gb184, 2, none⟩ (.int .i64 0))]; generalize hq_ : World.drewN (((w10.setCell ⟨gb184, 0, none⟩ (.int .i64 (wrap64 (t178)))).setCell ⟨gb184, 1, none⟩ (.int .i64 (wrap64 (t182)))).setCell ⟨gb184, 2, none⟩ (.int .i64 0)) _ = w15; have m0_ : zf (w15.heap[gb177]? = some (.cells #[.int .i64 0, .int .i64 0, .int .i64 0] 201 (0, 0))) := ⟨by rw [← hq_]; first | exact Kd.xQ n0_.out _ | exact Kd.Q_drewN n0_.out _ | exact zl n0_.out _ | exact zt n0_.out _ | exact Kd.S_drewN n0_.out _ | exact n0_.out⟩; have m1_ : zf (w15.heap[gb184]? = some (.cells #[.int .i64 (wrap64 (t178)), .int .i64 (wrap64 (t182)), .int .i64 0] 201 (0, 0))) := ⟨by rw [← hq_]; first | exact Kd.xQ n1_.out _ | exact Kd.Q_drewN n1_.out _ | exact zl n1_.out _ | exact zt n1_.out _ | exact Kd.S_drewN n1_.out _ | exact n1_.out⟩; have m2_ : zf (Below w.heap.size w w15) := ⟨by rw [← hq_]; first | exact Kd.xQ n2_.out _ | exact Kd.Q_drewN n2_.out _ | exact zl n2_.out _ | exact zt n2_.out _ | exact Kd.S_drewN n2_.out _ | exact n2_.out⟩; clear hq_ n0_ n1_ n2_; have n0_ := m0_; have n1_ := m1_; have n2_ := m2_; clear m0_ m1_ m2_) | (generalize (((w10.setCell ⟨gb184, 0, none⟩ (.int .i64 (wrap64 (t178)))).setCell ⟨gb184, 1, none⟩ (.int .i64 (wrap64 (t182)))).setCell ⟨gb184, 2, none⟩ (.int .i64 0)) = w15 at n0_ n1_ n2_ ⊢)
    have BK177 := n0_
    have BK184 := n1_
    have HB := n2_
    clear n0_ n1_ n2_
    have n0_ := zf.mk (zo BK177.out)
    have n1_ := zf.mk (zo BK184.out)
    have n2_ := zf.mk (zM HB.out)
    clear BK177
    clear BK184
    clear HB
    have BK177 := n0_
    have BK184 := n1_
    have HB := n2_
    clear n0_ n1_ n2_
    refine Zi (n := 8) (S := fun w' => w'.cell? ⟨gb184, 0, none⟩ = some (.int .i64 (wrap64 (t178))) ∧ w'.cell? ⟨gb184, 1, none⟩ = some (.int .i64 (wrap64 (t182))) ∧ w'.cell? ⟨gb184, 2, none⟩ = some (.int .i64 0)) (ds := []) #[false,false,false,false,false,false,false,false] (by kernel_rfl) rfl rfl ⟨(za BK184.out 0).trans rfl, (za BK184.out 1).trans rfl, (za BK184.out 2).trans rfl⟩ (fun hHeld => ?_); refine jO yh.tab7 yh.bits7 (fun HT_ HW_ => ?_)
    generalize w15.drew = w16 at BK177 BK184 HB hHeld ⊢
    refine pq_ 0 (some 35) ?_ (hc := yB HT_.out (by kernel_rfl))
    refine pq_ 1 (some 36) ?_ (hc := yB HT_.out (by kernel_rfl))
    refine pq_ 2 (some 37) ?_ (hc := yB HT_.out (by kernel_rfl))
    refine tq_ 3 (some 38) hHeld ?_ (hc := qK HT_.out HW_.out (by kernel_rfl))
    refine tq_ 4 (some 39) hHeld ?_ (hc := qK HT_.out HW_.out (by kernel_rfl))
    refine oq_ 5 (some 40) (fun K hK => ?_) (hc := kI HT_.out (by kernel_rfl))
    refine yo Tryz.func149 (by kernel_rfl) rfl #[.agg #[.int .i64 (wrap64 (t178)), .int .i64 (wrap64 (t182)), .int .i64 0]] (by rfl) rfl rfl (by (try simp only [List.map_toArray, List.map_cons, List.map_nil]); first | done | rfl | (simp only [List.length_drop, List.length_take]; rfl)) ?_
    with_reducible refine (xL.calls (wrap64 (t178)) (wrap64 (t182)) 0 t185 t186 t187 _ A14.out).mono ?_
    rintro e w17 ⟨rfl, hb⟩
    refine ⟨_, rfl, ?_⟩
    have n0_ := zf.mk (zb BK177.out hb)
    have n1_ := zf.mk (zb BK184.out hb)
    have n2_ := zf.mk (zH (HB.out) hb)
    clear BK177
    clear BK184
    clear HB
    have BK177 := n0_
    have BK184 := n1_
    have HB := n2_
    clear n0_ n1_ n2_
    (try clear hb)
    (try clear hb2)
    (try clear hk)
    (try clear hi)
    refine hK.out _ _ ⟨(za BK184.out 0).trans rfl, (za BK184.out 1).trans rfl, (za BK184.out 2).trans rfl⟩ (fun hHeld => ?_)
    clear hK K
    refine nq_ ?_
    refine pq_ 6 (some 41) ?_ (hc := yB HT_.out (by kernel_rfl))
    refine pq_ 7 (some 42) ?_ (hc := yB HT_.out (by kernel_rfl))
    refine xP (vI HT_.out (by kernel_rfl)) ?_
    try go_wp2
    go_meet
    case rel => exact ⟨_, ((!((wrap64 (t178)) == t185) || (!((wrap64 (t182)) == t186) || (!(0 == t187))))), (by first | rfl | (simp; done) | (simp [*]; done)), H', ⟨by first | omega | exact Nat.le_refl _⟩, ⟨BK177.out⟩, ⟨BK184.out⟩, ⟨HB.out⟩⟩
   ·
    rw [if_neg c13] at H
    have c13b0 : (t180 == 0) = false := beq_eq_false_iff_ne.mpr c13
    have c13b1 : (t180 != 0) = true := bne_iff_ne.mpr c13
    (first | rw [c13b0] | (simp only [yX, xN]; rw [c13b0]) | skip)
    have H' := zf.mk H
    clear H
    try go_wp2
    have n0_ : zf ((((w10.setCell ⟨gb184, 0, none⟩ (.int .i64 (wrap64 (t178)))).setCell ⟨gb184, 1, none⟩ (.int .i64 (wrap64 (t182)))).setCell ⟨gb184, 2, none⟩ (.int .i64 0)).heap[gb177]? = some (.cells #[.int .i64 0, .int .i64 0, .int .i64 0] 201 (0, 0))) := ⟨by (with_reducible repeat (first | refine zl ?_ _ | refine zo ?_ | refine zg ?_ _)); refine yJ ?_ NB177_184.out _; (with_reducible repeat (first | refine zl ?_ _ | refine zo ?_ | refine zg ?_ _)); refine yJ ?_ NB177_184.out _; (with_reducible repeat (first | refine zl ?_ _ | refine zo ?_ | refine zg ?_ _)); refine yJ ?_ NB177_184.out _; (with_reducible repeat (first | refine zl ?_ _ | refine zo ?_ | refine zg ?_ _)); exact BK177.out⟩
    have n1_ : zf ((((w10.setCell ⟨gb184, 0, none⟩ (.int .i64 (wrap64 (t178)))).setCell ⟨gb184, 1, none⟩ (.int .i64 (wrap64 (t182)))).setCell ⟨gb184, 2, none⟩ (.int .i64 0)).heap[gb184]? = some (.cells #[.int .i64 (wrap64 (t178)), .int .i64 (wrap64 (t182)), .int .i64 0] 201 (0, 0))) := ⟨by (with_reducible repeat (first | refine zl ?_ _ | refine zo ?_ | refine zg ?_ _)); refine zO (cs := #[.int .i64 (wrap64 (t178)), .int .i64 (wrap64 (t182)), .int .i64 0]) ?_ 2 _ rfl; (with_reducible repeat (first | refine zl ?_ _ | refine zo ?_ | refine zg ?_ _)); refine zO (cs := #[.int .i64 (wrap64 (t178)), .int .i64 0, .int .i64 0]) ?_ 1 _ rfl; (with_reducible repeat (first | refine zl ?_ _ | refine zo ?_ | refine zg ?_ _)); refine zO (cs := #[.int .i64 0, .int .i64 0, .int .i64 0]) ?_ 0 _ rfl; (with_reducible repeat (first | refine zl ?_ _ | refine zo ?_ | refine zg ?_ _)); exact BK184.out⟩
    have n2_ : zf (Below w.heap.size w (((w10.setCell ⟨gb184, 0, none⟩ (.int .i64 (wrap64 (t178)))).setCell ⟨gb184, 1, none⟩ (.int .i64 (wrap64 (t182)))).setCell ⟨gb184, 2, none⟩ (.int .i64 0))) := ⟨by repeat (first | (with_reducible first | exact HB.out | apply zn | apply zt | apply zM | refine zP ?_ GE177.out | refine zP ?_ GE184.out) | exact HB.out)⟩
    (try clear BK177)
    (try clear BK184)
    (try clear HB)
    first | (rw [qE (((w10.setCell ⟨gb184, 0, none⟩ (.int .i64 (wrap64 (t178)))).setCell ⟨gb184, 1, none⟩ (.int .i64 (wrap64 (t182)))).setCell ⟨gb184, 2, none⟩ (.int .i64 0))]; generalize hq_ : World.drewN (((w10.setCell ⟨gb184, 0, none⟩ (.int .i64 (wrap64 (t178)))).setCell ⟨gb184, 1, none⟩ (.int .i64 (wrap64 (t182)))).setCell ⟨gb184, 2, none⟩ (.int .i64 0)) _ = w18; have m0_ : zf (w18.heap[gb177]? = some (.cells #[.int .i64 0, .int .i64 0, .int .i64 0] 201 (0, 0))) := ⟨by rw [← hq_]; first | exact Kd.xQ n0_.out _ | exact Kd.Q_drewN n0_.out _ | exact zl n0_.out _ | exact zt n0_.out _ | exact Kd.S_drewN n0_.out _ | exact n0_.out⟩; have m1_ : zf (w18.heap[gb184]? = some (.cells #[.int .i64 (wrap64 (t178)), .int .i64 (wrap64 (t182)), .int .i64 0] 201 (0, 0))) := ⟨by rw [← hq_]; first | exact Kd.xQ n1_.out _ | exact Kd.Q_drewN n1_.out _ | exact zl n1_.out _ | exact zt n1_.out _ | exact Kd.S_drewN n1_.out _ | exact n1_.out⟩; have m2_ : zf (Below w.heap.size w w18) := ⟨by rw [← hq_]; first | exact Kd.xQ n2_.out _ | exact Kd.Q_drewN n2_.out _ | exact zl n2_.out _ | exact zt n2_.out _ | exact Kd.S_drewN n2_.out _ | exact n2_.out⟩; clear hq_ n0_ n1_ n2_; have n0_ := m0_; have n1_ := m1_; have n2_ := m2_; clear m0_ m1_ m2_) | (generalize (((w10.setCell ⟨gb184, 0, none⟩ (.int .i64 (wrap64 (t178)))).setCell ⟨gb184, 1, none⟩ (.int .i64 (wrap64 (t182)))).setCell ⟨gb184, 2, none⟩ (.int .i64 0)) = w18 at n0_ n1_ n2_ ⊢)
    have BK177 := n0_
    have BK184 := n1_
    have HB := n2_
    clear n0_ n1_ n2_
    have n0_ := zf.mk (zo BK177.out)
    have n1_ := zf.mk (zo BK184.out)
    have n2_ := zf.mk (zM HB.out)
    clear BK177
    clear BK184
    clear HB
    have BK177 := n0_
    have BK184 := n1_
    have HB := n2_
    clear n0_ n1_ n2_
    refine Zi (n := 8) (S := fun w' => True) (ds := []) #[false,false,false,false,false,false,false,false] (by kernel_rfl) rfl rfl trivial (fun hHeld => ?_); refine jO yh.tab7 yh.bits7 (fun HT_ HW_ => ?_)
    generalize w18.drew = w19 at BK177 BK184 HB hHeld ⊢
    refine pq_ 0 (some 35) ?_ (hc := yB HT_.out (by kernel_rfl))
    refine pq_ 1 (some 36) ?_ (hc := yB HT_.out (by kernel_rfl))
    refine pq_ 2 (some 37) ?_ (hc := yB HT_.out (by kernel_rfl))
    refine jw (i := 3) (N := some 38) (v := undef) (a' := ?_) #[true,true,true,true,false,false,false,false] rfl rfl (yB HT_.out (by kernel_rfl)) (fun _ _ _ h => h) (Or.inr ⟨by rfl, rfl⟩) ?_ ?_
    rotate_left
    ·
     simp only [Act.put, List.setIfInBounds_toArray, List.set_cons_zero, List.set_cons_succ, yX, xN]
     rfl
    refine jw (i := 4) (N := some 39) (v := undef) (a' := ?_) #[true,true,true,true,true,false,false,false] rfl rfl (yB HT_.out (by kernel_rfl)) (fun _ _ _ h => h) (Or.inr ⟨by rfl, rfl⟩) ?_ ?_
    rotate_left
    ·
     simp only [Act.put, List.setIfInBounds_toArray, List.set_cons_zero, List.set_cons_succ, yX, xN]
     rfl
    refine jw (i := 5) (N := some 40) (v := undef) (a' := ?_) #[true,true,true,true,true,true,false,false] rfl rfl (yB HT_.out (by kernel_rfl)) (fun _ _ _ h => h) (Or.inr ⟨by rfl, rfl⟩) ?_ ?_
    rotate_left
    ·
     simp only [Act.put, List.setIfInBounds_toArray, List.set_cons_zero, List.set_cons_succ, yX, xN]
     rfl
    refine jw (i := 6) (N := some 41) (v := undef) (a' := ?_) #[true,true,true,true,true,true,true,false] rfl rfl (yB HT_.out (by kernel_rfl)) (fun _ _ _ h => h) (Or.inr ⟨by rfl, rfl⟩) ?_ ?_
    rotate_left
    ·
     simp only [Act.put, List.setIfInBounds_toArray, List.set_cons_zero, List.set_cons_succ, yX, xN]
     rfl
    refine pq_ 7 (some 42) ?_ (hc := yB HT_.out (by kernel_rfl))
    refine xP (vI HT_.out (by kernel_rfl)) ?_
    try go_wp2
    go_meet
    case rel => exact ⟨_, (true), (by first | rfl | (simp; done) | (simp [*]; done)), H', ⟨by first | omega | exact Nat.le_refl _⟩, ⟨BK177.out⟩, ⟨BK184.out⟩, ⟨HB.out⟩⟩
  case rest =>
   clear HC8
   (try clear c2b0); (try clear c2b1); (try clear hcz12_0); (try clear hcz12_1); (try clear hcz12_2); (try clear hfz12_0); (try clear hfz12_1); (try clear hfz12_2); (try clear hfz4_2)
   obtain ⟨kq, x42_7, rfl, HA, HJ7, BK177, BK184, HB⟩ := hcut
   cases kq with
   | zero => exact absurd HA.out (by simp [yh.j0])
   | succ kj7 =>
    have H := HA.out
    clear HA
    simp only [yh.j0] at H
    by_cases c20 : x42_7 = true
    ·
     subst c20
     have H1 : (some (0, 0, 0, 2)) = some (r1, r2, r3, r4) := by rw [if_pos rfl] at H; exact H
     clear H
     have H := H1
     clear H1
     simp only [Option.some.injEq, Prod.mk.injEq] at H
     obtain ⟨rfl, rfl, rfl, rfl⟩ := H
     have hnb21 := NB177_184.out
     have hnc21 := NB184_177.out
     obtain ⟨hcz22_0, hcz22_1, hcz22_2⟩ := zV BK177.out
     obtain ⟨hfz22_0, hfz22_1, hfz22_2⟩ := xq BK177.out
     go_wp2
     refine bodyPost_ret (qH rfl _ _ gb177 201 #[.int .i64 0, .int .i64 0, .int .i64 0] (0, 0) _ rfl (by (with_reducible repeat (first | refine zl ?_ _ | refine zo ?_ | refine zg ?_ _)); refine zO (cs := #[.int .i64 0, .int .i64 0, .int .i64 0]) ?_ 2 _ rfl; (with_reducible repeat (first | refine zl ?_ _ | refine zo ?_ | refine zg ?_ _)); refine zO (cs := #[.int .i64 0, .int .i64 0, .int .i64 0]) ?_ 1 _ rfl; (with_reducible repeat (first | refine zl ?_ _ | refine zo ?_ | refine zg ?_ _)); refine zO (cs := #[.int .i64 0, .int .i64 0, .int .i64 0]) ?_ 0 _ rfl; (with_reducible repeat (first | refine zl ?_ _ | refine zo ?_ | refine zg ?_ _)); exact BK177.out) Tryz.underlying201 rfl (by kernel_rfl)) rfl ?_
     exact ⟨by first | rfl | (simp [zD, zC] <;> rfl) | (simp [*, zD, zC] <;> rfl), by repeat (first | (with_reducible first | exact HB.out | apply zn | apply zt | apply zM | refine zP ?_ GE177.out | refine zP ?_ GE184.out) | exact HB.out)⟩
    ·
     replace c20 := Bool.eq_false_iff.mpr c20
     subst c20
     have H1 : (if (l0.length : Int) < 7 then (some (0, 0, 0, 3)) else (if 6 < (l0.length : Int) then (some ((wrap64 (t178)), (wrap64 (t182)), wrap64 (rd l0 6), 0)) else (none))) = some (r1, r2, r3, r4) := by rw [if_neg (show ¬ (false = true) by decide)] at H; exact H
     clear H
     have H := H1
     clear H1
     by_cases c23 : (l0.length : Int) < 7
     ·
      rw [if_pos c23] at H
      have c23b0 : decide ((l0.length : Int) < 7) = true := dT c23
      have c23b1 : decide (l0.length < 7) = true := decide_eq_true (by omega)
      clear c23
      simp only [Option.some.injEq, Prod.mk.injEq] at H
      obtain ⟨rfl, rfl, rfl, rfl⟩ := H
      have hnb24 := NB177_184.out
      have hnc24 := NB184_177.out
      obtain ⟨hcz25_0, hcz25_1, hcz25_2⟩ := zV BK177.out
      obtain ⟨hfz25_0, hfz25_1, hfz25_2⟩ := xq BK177.out
      go_wp2
      refine bodyPost_ret (qH rfl _ _ gb177 201 #[.int .i64 0, .int .i64 0, .int .i64 0] (0, 0) _ rfl (by (with_reducible repeat (first | refine zl ?_ _ | refine zo ?_ | refine zg ?_ _)); refine zO (cs := #[.int .i64 0, .int .i64 0, .int .i64 0]) ?_ 2 _ rfl; (with_reducible repeat (first | refine zl ?_ _ | refine zo ?_ | refine zg ?_ _)); refine zO (cs := #[.int .i64 0, .int .i64 0, .int .i64 0]) ?_ 1 _ rfl; (with_reducible repeat (first | refine zl ?_ _ | refine zo ?_ | refine zg ?_ _)); refine zO (cs := #[.int .i64 0, .int .i64 0, .int .i64 0]) ?_ 0 _ rfl; (with_reducible repeat (first | refine zl ?_ _ | refine zo ?_ | refine zg ?_ _)); exact BK177.out) Tryz.underlying201 rfl (by kernel_rfl)) rfl ?_
      exact ⟨by first | rfl | (simp [zD, zC] <;> rfl) | (simp [*, zD, zC] <;> rfl), by repeat (first | (with_reducible first | exact HB.out | apply zn | apply zt | apply zM | refine zP ?_ GE177.out | refine zP ?_ GE184.out) | exact HB.out)⟩
     ·
      rw [if_neg c23] at H
      have c23b0 : decide ((l0.length : Int) < 7) = false := dF c23
      have c23b1 : decide (l0.length < 7) = false := decide_eq_false (by omega)
      clear c23
      by_cases c26 : 6 < (l0.length : Int)
      ·
       rw [if_pos c26] at H
       have c26b0 : decide (6 < (l0.length : Int)) = true := dT c26
       have c26b1 : decide (6 < l0.length) = true := decide_eq_true (by omega)
       clear c26
       simp only [Option.some.injEq, Prod.mk.injEq] at H
       obtain ⟨rfl, rfl, rfl, rfl⟩ := H
       have p188 : 0 ≤ (6 : Int) := (by omega)
       have q188 : 6 < (l0.length : Int) := of_decide_eq_true (by first | (with_reducible assumption) | assumption)
       obtain ⟨ad188, e188, hx188_0⟩ := Kd.kz HR0.out 6 p188 q188
       cases e188
       (try simp only [show (6 : Int).toNat = 6 from rfl, Nat.reduceMul, Nat.reduceEqDiff, Go.Addr.add, ↓reduceIte] at hx188_0)
       have qi188 : (6 < l0.length) = True := eq_true (by omega)
       (try rw [show ((6 : Int)).toNat = 6 from rfl] at hx188_0)
       replace hx188_0 := (HB.out.cell (World.block_lt_of_cell? w _ hx188_0)).trans hx188_0
       replace p188 := eq_true p188
       replace q188 := eq_true q188
       have hnb27 := NB184_177.out
       have hnc27 := NB177_184.out
       obtain ⟨hcz28_0, hcz28_1, hcz28_2⟩ := zV BK184.out
       obtain ⟨hfz28_0, hfz28_1, hfz28_2⟩ := xq BK184.out
       obtain ⟨hcz29_0, hcz29_1, hcz29_2⟩ := zV BK177.out
       obtain ⟨hfz29_0, hfz29_1, hfz29_2⟩ := xq BK177.out
       go_wp2
       refine bodyPost_ret (qH rfl _ _ gb177 201 #[.int .i64 (wrap64 (t178)), .int .i64 (wrap64 (t182)), .int .i64 (wrap64 (rd l0 6))] (0, 0) _ rfl (by (with_reducible repeat (first | refine zl ?_ _ | refine zo ?_ | refine zg ?_ _)); refine zO (cs := #[.int .i64 (wrap64 (t178)), .int .i64 (wrap64 (t182)), .int .i64 0]) ?_ 2 _ rfl; (with_reducible repeat (first | refine zl ?_ _ | refine zo ?_ | refine zg ?_ _)); refine zO (cs := #[.int .i64 (wrap64 (t178)), .int .i64 0, .int .i64 0]) ?_ 1 _ rfl; (with_reducible repeat (first | refine zl ?_ _ | refine zo ?_ | refine zg ?_ _)); refine zO (cs := #[.int .i64 0, .int .i64 0, .int .i64 0]) ?_ 0 _ rfl; (with_reducible repeat (first | refine zl ?_ _ | refine zo ?_ | refine zg ?_ _)); refine yJ ?_ NB177_184.out _; (with_reducible repeat (first | refine zl ?_ _ | refine zo ?_ | refine zg ?_ _)); exact BK177.out) Tryz.underlying201 rfl (by kernel_rfl)) rfl ?_
       exact ⟨by first | rfl | (simp [zD, zC] <;> rfl) | (simp [*, zD, zC] <;> rfl), by repeat (first | (with_reducible first | exact HB.out | apply zn | apply zt | apply zM | refine zP ?_ GE177.out | refine zP ?_ GE184.out) | exact HB.out)⟩
      ·
       rw [if_neg c26] at H
       exact absurd H (by simp)
end Go.Proofs.YtlalbohhopmpdaaGreat.PTop
