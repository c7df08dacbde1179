/- Words and walks for TopBlind (made of the session's own texts; each part by itself). -/
import Derived.RegionTactic
import Derived.ChangeAlike
import Derived.Outline
import Derived.Lib.Hide
import Derived.WalkSpells
import Derived.Maps.OwnSet
import Derived.Maps.OwnIn
import Derived.Maps.Ext
import Derived.DeepKeys4
import Derived.MapViews
import Derived.Test.YtlalbohhopmpdaaGreatZTopBlind3
import Derived.Test.YtlalbohhopmpdaaGreatZTopBlind4
set_option maxRecDepth 100000
set_option maxHeartbeats 8000000
set_option linter.unusedVariables false
set_option linter.unusedSimpArgs false
set_option linter.unusedSectionVars false
namespace Go.Proofs.YtlalbohhopmpdaaGreat.Top
open Go.RowKit Go.Proofs.YtlalbohhopmpdaaGreat.PTop Go.YW.PrintWords Go.YW.PrintLast Go.YW.PrintMore Go.Proofs.YtlalbohhopmpdaaGreat.Num
def exR (v : Value) : Option (DataW Value × List MemPlace) := some (.held v, [])
structure Kz (κ : Type) where
  kd : TypeId
  law : Go.Maps.Keyed Tryz.prog kd
  val : κ → Value
  kl : κ → Lit
  dom : κ → Prop
  is : ∀ x, dom x → keyOf Tryz.prog kd (val x) = some (kl x)
  inj : ∀ x y, dom x → dom y → kl x = kl y → x = y
theorem zcl : Go.Maps.Keyed Tryz.prog 3 := Go.Maps.int_keyed Tryz.underlying3
def QV : Kz Int where
  kd := 3
  law := zcl
  val := fun x => .int .i64 x
  kl := fun x => .int .i64 x
  dom := fun x => (Lit.int .i64 x).wf = true
  is := fun x h => Go.Maps.keyOf_int_mk Tryz.underlying3 h
  inj := fun x y _ _ h => by injection h
theorem VF : laidOutB Tryz.prog = true := by kernel_rfl
theorem Kw : (158 : TypeId) < Tryz.prog.types.size := of_decide_eq_true (by kernel_rfl)
theorem Vr : (match Tryz.prog.underlying 158 with | some (.array _ _) | some (.struct _) => true | _ => false) = true := by rw [Tryz.underlying158]
theorem za4 : Go.Maps.Keyed Tryz.prog 158 := Go.Maps.Keyed.of_law (deep_law_laid VF (m := 2) (by omega) Kw (by kernel_rfl) Vr)
def kl2 (t a : Int) : Lit := .string (keyBytes [.int .i64 t, .int .i64 a])
theorem zb9 : Tryz.prog.keyType 158 = true := by kernel_rfl
theorem zbU (P : Program) (k : TypeId) (f0 f1 : Field) (hu : P.underlying k = some (.struct #[f0, f1])) (n0 : (f0.name != "_") = true) (n1 : (f1.name != "_") = true) (t0 : P.underlying f0.type = some (.int .i64)) (t1 : P.underlying f1.type = some (.int .i64)) (o0 : f0.offset = 0) (o1 : f1.offset = 1) (c0 : P.cellsOf f0.type = 1) (c1 : P.cellsOf f1.type = 1) (hk : P.keyType k = true) (hc : P.cellsOf k = 2) (hn : 0 < P.types.size) (t a : Int) (ht : (Lit.int .i64 t).wf = true) (ha : (Lit.int .i64 a).wf = true) : keyOf P k (.agg #[.int .i64 t, .int .i64 a]) = some (kl2 t a) := by
  obtain ⟨n, hn⟩ : ∃ n, P.types.size = n + 1 := ⟨P.types.size - 1, by omega⟩
  simp [keyOf, hu, hk, Value.formed, hn, Program.keyLits, Value.cells, hc, n0, n1, t0, t1, o0, o1, c0, c1, ht, ha]
  rfl
theorem KD (t a : Int) (ht : (Lit.int .i64 t).wf = true) (ha : (Lit.int .i64 a).wf = true) : keyOf Tryz.prog 158 (.agg #[.int .i64 t, .int .i64 a]) = some (kl2 t a) :=
  zbU Tryz.prog 158 _ _ Tryz.underlying158 rfl rfl Tryz.underlying3 Tryz.underlying3 rfl rfl (by kernel_rfl) (by kernel_rfl) zb9 (by kernel_rfl) (Nat.lt_of_le_of_lt (Nat.zero_le _) Kw) t a ht ha
def zah : Kz (Int × Int) where
  kd := 158
  law := za4
  val := fun x => .agg #[.int .i64 x.1, .int .i64 x.2]
  kl := fun x => kl2 x.1 x.2
  dom := fun x => (Lit.int .i64 x.1).wf = true ∧ (Lit.int .i64 x.2).wf = true
  is := fun x h => KD x.1 x.2 h.1 h.2
  inj := fun x y hx hy h => by
    have := za4.inj (KD x.1 x.2 hx.1 hx.2) (h ▸ KD y.1 y.2 hy.1 hy.2)
    have h2 : x.1 = y.1 ∧ x.2 = y.2 := by simpa using this
    exact Prod.ext h2.1 h2.2
def qa {κ : Type} (K : Kz κ) (w : World) (b N c : Nat) (M : κ → Option Value) : Prop :=
  ∃ D, w.ownsMap Tryz.prog K.kd exR b N D ∧ Go.Maps.size D = c ∧ ∀ x, K.dom x → (M x = none → Go.Maps.has D (K.kl x) = false) ∧ ∀ v, M x = some v → Go.Maps.has D (K.kl x) = true ∧ ∀ z, D.atKey (K.kl x) z = .held v
section
variable {κ : Type} {K : Kz κ} {w w1 : World} {b N c : Nat} {M : κ → Option Value} {t e : TypeId}
theorem qa.made (K : Kz κ) (w : World) : qa K (w.alloc (.map #[] 0)) w.heap.size 0 0 (fun _ => none) :=
  ⟨.map [], World.ownsMap_made _ _ _ _, rfl, fun x _ => ⟨fun _ => rfl, fun v h => by cases h⟩⟩
theorem qa.lt (h : qa K w b N c M) : b < w.heap.size := by
  obtain ⟨D, h1, _⟩ := h
  exact h1.lt
theorem qa.keep (h : qa K w b N c M) (hb : w1.heap[b]? = w.heap[b]?) : qa K w1 b N c M := by
  obtain ⟨D, ⟨es, clock, h1, h2⟩, h3⟩ := h
  exact ⟨D, ⟨es, clock, hb.trans h1, h2⟩, h3⟩
theorem qa.below (h : qa K w b N c M) (hb : Below w.heap.size w w1) : qa K w1 b N c M := h.keep (hb.block b h.lt)
theorem qa.mono (h : qa K w b N c M) {N' : Nat} (hn : N ≤ N') : qa K w b N' c M := by
  obtain ⟨D, h1, h2⟩ := h
  exact ⟨D, h1.mono hn, h2⟩
theorem qa.blk (h : qa K w b N c M) : ∃ es clock, w.heap[b]? = some (.map es clock) := by
  obtain ⟨D, ⟨es, clock, h1, _⟩, _⟩ := h
  exact ⟨es, clock, h1⟩
theorem qa.look (h : qa K w b N c M) (ht : Tryz.prog.underlying t = some (.map K.kd e)) {z : Value} (hz : (zeroValue e).run Tryz.prog w = .ok z w) {x : κ} (hx : K.dom x) : (Instr.lookup t (.map (some b)) (K.val x) false).run Tryz.prog w = .ok ((M x).getD z) w := by
  obtain ⟨D, h1, _, h3⟩ := h
  obtain ⟨v, ps, hrun, hv⟩ := h1.lookup K.law ht hz (show exR z = some (.held z, []) from rfl) (K.is x hx)
  have h4 : DataW.held v = D.atKey (K.kl x) (.held z) := (Prod.mk.inj (Option.some.inj hv)).1
  have h5 : v = (M x).getD z := by
    cases hm : M x with
    | none =>
      rw [Go.Maps.atKey_of_not_has ((h3 x hx).1 hm)] at h4
      injection h4
    | some u =>
      rw [((h3 x hx).2 u hm).2] at h4
      injection h4
  rw [h5] at hrun
  exact hrun
theorem qa.look_ok (h : qa K w b N c M) (ht : Tryz.prog.underlying t = some (.map K.kd e)) {z : Value} (hz : (zeroValue e).run Tryz.prog w = .ok z w) {x : κ} (hx : K.dom x) : (Instr.lookup t (.map (some b)) (K.val x) true).run Tryz.prog w = .ok (.tuple #[(M x).getD z, .bool (M x).isSome]) w := by
  obtain ⟨D, h1, _, h3⟩ := h
  obtain ⟨v, ps, hrun, hv⟩ := h1.look_ok K.law ht hz (show exR z = some (.held z, []) from rfl) (K.is x hx)
  have h4 : DataW.held v = D.atKey (K.kl x) (.held z) := (Prod.mk.inj (Option.some.inj hv)).1
  have h5 : v = (M x).getD z ∧ Go.Maps.has D (K.kl x) = (M x).isSome := by
    cases hm : M x with
    | none =>
      rw [Go.Maps.atKey_of_not_has ((h3 x hx).1 hm)] at h4
      exact ⟨by injection h4, (h3 x hx).1 hm⟩
    | some u =>
      rw [((h3 x hx).2 u hm).2] at h4
      exact ⟨by injection h4, ((h3 x hx).2 u hm).1⟩
  rw [h5.1, h5.2] at hrun
  exact hrun
theorem qa.len (h : qa K w b N c M) (ht : Tryz.prog.underlying t = some (.map K.kd e)) (ty : TypeId) : (Builtin.len_ #[t] ty #[.map (some b)]).run Tryz.prog w = .ok (.int .i64 (c : Int)) w := by
  obtain ⟨D, h1, h2, _⟩ := h
  rw [h1.len ht ty, h2]
theorem qa.put [DecidableEq κ] (h : qa K w b N c M) (ht : Tryz.prog.underlying t = some (.map K.kd e)) (hN : N < maxLen) {x : κ} (hx : K.dom x) (v : Value) : ∃ w', (Instr.mapUpdate t (.map (some b)) (K.val x) v).run Tryz.prog w = .ok () w' ∧ qa K w' b (N + 1) (if (M x).isSome then c else c + 1) (fun y => if y = x then some v else M y) ∧ w.grownBy w' (some b) := by
  obtain ⟨D, h1, h2, h3⟩ := h
  obtain ⟨w', hrun, ho, hg⟩ := h1.update K.law ht hN (K.is x hx) (show exR v = some (.held v, []) from rfl)
  have hkl := K.law.key (K.is x hx)
  refine ⟨w', hrun, ⟨D.put (K.kl x) (.held v), ho, ?_, fun y hy => ?_⟩, hg⟩
  · rw [Go.Maps.size_put (h1.tidy K.law), h2]
    cases hm : M x with
    | none => rw [(h3 x hx).1 hm]; rfl
    | some u => rw [((h3 x hx).2 u hm).1]; rfl
  · by_cases hyx : y = x
    · subst hyx
      dsimp only
      rw [if_pos rfl]
      refine ⟨fun h => (by cases h), fun u hu => ?_⟩
      obtain rfl := Option.some.inj hu
      exact ⟨Go.Maps.has_put_same h1.isMap hkl _, fun z => Go.Maps.atKey_put_same h1.isMap hkl _ _⟩
    · dsimp only
      rw [if_neg hyx]
      have hne : K.kl y ≠ K.kl x := fun e => hyx (K.inj y x hy hx e)
      exact ⟨fun hm => by rw [Go.Maps.has_put_other hne]; exact (h3 y hy).1 hm, fun u hu => ⟨by rw [Go.Maps.has_put_other hne]; exact ((h3 y hy).2 u hu).1, fun z => by rw [Go.Maps.atKey_put_other hne]; exact ((h3 y hy).2 u hu).2 z⟩⟩
theorem qa.del [DecidableEq κ] (h : qa K w b N c M) (ht : Tryz.prog.underlying t = some (.map K.kd e)) {x : κ} (hx : K.dom x) (ty : TypeId) : ∃ w', (Builtin.delete_ #[t, K.kd] ty #[.map (some b), K.val x]).run Tryz.prog w = .ok (.tuple #[]) w' ∧ qa K w' b N (if (M x).isSome then c - 1 else c) (fun y => if y = x then none else M y) ∧ w.grownBy w' (some b) := by
  obtain ⟨D, h1, h2, h3⟩ := h
  obtain ⟨w', hrun, ho, hg⟩ := h1.drop K.law ht (K.is x hx) ty
  refine ⟨w', hrun, ⟨D.del (K.kl x), ho, ?_, fun y hy => ?_⟩, hg.grown⟩
  · have h4 := Go.Maps.size_del (k := K.kl x) (h1.tidy K.law)
    rw [h2] at h4
    cases hm : M x with
    | none =>
      rw [(h3 x hx).1 hm] at h4
      simp at h4 ⊢
      exact h4
    | some u =>
      rw [((h3 x hx).2 u hm).1] at h4
      simp at h4 ⊢
      omega
  · by_cases hyx : y = x
    · subst hyx
      dsimp only
      rw [if_pos rfl]
      exact ⟨fun _ => Go.Maps.has_del_same, fun u hu => by cases hu⟩
    · dsimp only
      rw [if_neg hyx]
      have hne : K.kl y ≠ K.kl x := fun e => hyx (K.inj y x hy hx e)
      exact ⟨fun hm => by rw [Go.Maps.has_del_other hne]; exact (h3 y hy).1 hm, fun u hu => ⟨by rw [Go.Maps.has_del_other hne]; exact ((h3 y hy).2 u hu).1, fun z => by rw [Go.Maps.atKey_del_other hne]; exact ((h3 y hy).2 u hu).2 z⟩⟩
end
structure Ch (T M : List Nat) (B : Nat) (w w' : World) : Prop where
  os : w'.os = w.os
  tape : w'.tape = w.tape
  output : w'.output = w.output
  size : w.heap.size ≤ w'.heap.size
  low : ∀ i, i < B → w'.heap[i]? = w.heap[i]?
  isMap : ∀ m, m ∈ M → ∃ es c, w.heap[m]? = some (.map es c)
  block : ∀ i, i < w.heap.size → i ∉ M → (∀ cs t x, w.heap[i]? = some (.cells cs t x) → t ∉ T) → w'.heap[i]? = w.heap[i]?
section
variable {T M T' M' : List Nat} {B N : Nat} {w w0 w1 w2 : World}
theorem Ch.cell (h : Ch T M B w w1) {g t : Nat} {cs : Array Value} {x : Nat × Nat} (hg : w.heap[g]? = some (.cells cs t x)) (ht : t ∉ T) : w1.heap[g]? = some (.cells cs t x) := by
  refine (h.block g (zF hg) (fun hm => ?_) (fun cs' t' x' e => ?_)).trans hg
  · obtain ⟨es, c, e⟩ := h.isMap g hm
    rw [hg] at e
    cases e
  · rw [hg] at e
    injection e with e
    injection e with _ e
    exact e ▸ ht
theorem Ch.map (h : Ch T M B w w1) {g : Nat} {es : Array MapEntry} {c : Nat} (hg : w.heap[g]? = some (.map es c)) (hm : g ∉ M) : w1.heap[g]? = w.heap[g]? :=
  h.block g (zF hg) hm (fun cs t x e => by rw [hg] at e; cases e)
theorem Ch.trans (h : Ch T M B w w1) (k : Ch T M B w1 w2) : Ch T M B w w2 :=
  ⟨k.os.trans h.os, k.tape.trans h.tape, k.output.trans h.output, Nat.le_trans h.size k.size, fun i hi => (k.low i hi).trans (h.low i hi), h.isMap, fun i hi hm ht => by
    have h1 := h.block i hi hm ht
    exact (k.block i (Nat.lt_of_lt_of_le hi h.size) hm (fun cs t x e => ht cs t x (h1 ▸ e))).trans h1⟩
theorem Ch.mono (h : Ch T M B w w1) (hT : ∀ t, t ∈ T → t ∈ T') (hM : ∀ m, m ∈ M → m ∈ M') (hm : ∀ m, m ∈ M' → ∃ es c, w.heap[m]? = some (.map es c)) : Ch T' M' B w w1 :=
  ⟨h.os, h.tape, h.output, h.size, h.low, hm, fun i hi h1 h2 => h.block i hi (fun h3 => h1 (hM i h3)) (fun cs t x e h3 => h2 cs t x e (hT t h3))⟩
theorem Ch.of_below (hb : Below w.heap.size w w1) (hB : B ≤ w.heap.size) (hM : ∀ m, m ∈ M → ∃ es c, w.heap[m]? = some (.map es c)) : Ch T M B w w1 :=
  ⟨hb.os, hb.tape, hb.output, hb.size, fun i hi => hb.block i (Nat.lt_of_lt_of_le hi hB), hM, fun i hi _ _ => hb.block i hi⟩
theorem Ch.of_map {m : Nat} (hg : w.grownBy w1 (some m)) (hm : m ∈ M) (hB : B ≤ m) (hs : B ≤ w.heap.size) (hM : ∀ m, m ∈ M → ∃ es c, w.heap[m]? = some (.map es c)) : Ch T M B w w1 :=
  ⟨hg.os, hg.tape, hg.output, hg.size, fun i hi => hg.block i (by omega) (fun e => by injection e; omega), hM, fun i hi h1 _ => hg.block i hi (fun e => by injection e with e; exact h1 (e ▸ hm))⟩
theorem Ch.of_cells {r : Option Nat} (hg : w.grownBy w1 r) (ht : ∀ g, r = some g → B ≤ g ∧ ∃ cs t x, w.heap[g]? = some (.cells cs t x) ∧ t ∈ T) (hs : B ≤ w.heap.size) (hM : ∀ m, m ∈ M → ∃ es c, w.heap[m]? = some (.map es c)) : Ch T M B w w1 :=
  ⟨hg.os, hg.tape, hg.output, hg.size, fun i hi => hg.block i (by omega) (fun e => by have := (ht i e.symm).1; omega), hM, fun i hi _ h2 => hg.block i hi (fun e => by
    obtain ⟨_, cs, t, x, h3, h4⟩ := ht i e.symm
    exact h2 cs t x h3 h4)⟩
theorem Ch.set {g t i : Nat} {cs : Array Value} {x : Nat × Nat} (hg : w.heap[g]? = some (.cells cs t x)) (ht : t ∈ T) (hB : B ≤ g) (hM : ∀ m, m ∈ M → ∃ es c, w.heap[m]? = some (.map es c)) (v : Value) : Ch T M B w (w.setCell ⟨g, i, none⟩ v) :=
  ⟨rfl, rfl, rfl, by simp [World.setCell], fun j hj => Below.heap_setCell w ⟨g, i, none⟩ v j (by show j ≠ g; omega), hM, fun j hj _ h2 => Below.heap_setCell w ⟨g, i, none⟩ v j (fun e => by
    subst e
    exact h2 cs t x hg ht)⟩
theorem Ch.below (h : Ch T M B w w1) (h0 : Below B w0 w) : Below B w0 w1 := h0.trans ⟨h.os, h.tape, h.output, h.size, h.low⟩
theorem Ch.R (h : Ch T M B w w1) {α : Type} {d : Kd α} {e base : Nat} {ok : Nat → Prop} {v : Value} {xs : List α} (hr : Kd.R d e w base ok v xs) (ht : ∀ q, q ∈ e :: d.E → q ∉ T) : Kd.R d e w1 base ok v xs := by
  refine Kd.yX (Kd.Yl (Kd.xZ hr) (fun k hk => ?_)) (fun _ hk => hk.1)
  obtain ⟨_, _, _, q, hq, cells, hc⟩ := hk
  exact (h.cell hc (ht q hq)).trans hc.symm
theorem qa.ch {κ : Type} {K : Kz κ} {b c : Nat} {F : κ → Option Value} (h : qa K w b N c F) (k : Ch T M B w w1) (hb : b ∉ M) : qa K w1 b N c F := by
  obtain ⟨es, cl, e⟩ := h.blk
  exact h.keep (k.map e hb)
end
structure SS where
  last : Int
  n : Int
  most : Int
  ch : Int × Int → List xU
structure VS where
  snap : Int
  reads : List S78
  writes : List yg
def zch (s : SS) (mst : Nat) : Array Value := #[.int .u64 s.last, .int .i64 s.n, .int .i64 s.most, .map (some mst)]
def Zg (w : World) (B : Nat) (F : Int × Int → Option Value) (ch : Int × Int → List xU) : Prop :=
  (∀ k, F k = none → ch k = []) ∧ (∀ k v, F k = some v → Kd.R vo 210 w B (fun _ => True) v (ch k)) ∧ ∀ k k' v v', k ≠ k' → F k = some v → F k' = some v' → ∀ b, v.ownBlock = some b → v'.ownBlock ≠ some b
structure xg (w : World) (B N st mst : Nat) (s : SS) : Prop where
  blk : w.heap[st]? = some (.cells (zch s mst) 118 (0, 0))
  map : ∃ c F, qa zah w mst N c F ∧ Zg w B F s.ch
  base : B ≤ st ∧ B ≤ mst
def zcj (ticks : Int) (mb : Nat) : Array Value := #[.int .i64 ticks, .map (some mb)]
structure qp (w : World) (B N bk mb : Nat) (ticks : Int) : Prop where
  blk : w.heap[bk]? = some (.cells (zcj ticks mb) 182 (0, 0))
  map : ∃ c F, qa QV w mb N c F
  base : B ≤ bk ∧ B ≤ mb
def zbA (st : Nat) (most spans writes : Int) (me : Nat) : Array Value := #[.pointer (some ⟨st, 0, none⟩), .int .i64 most, .int .i64 spans, .int .i64 writes, .map (some me)]
def xK (w : World) (B : Nat) (v : Value) (x : VS) : Prop := ∃ A1 c1 A2 c2, v = .agg #[.int .u64 x.snap, .slice A1 x.reads.length c1, .slice A2 x.writes.length c2] ∧ Kd.R k78 78 w B (fun _ => True) (.slice A1 x.reads.length c1) x.reads ∧ Kd.R xL 208 w B (fun _ => True) (.slice A2 x.writes.length c2) x.writes
structure jd (w : World) (B N en st me : Nat) (most spans writes : Int) (c : Nat) (vs : Int → Option VS) : Prop where
  blk : w.heap[en]? = some (.cells (zbA st most spans writes me) 125 (0, 0))
  map : ∃ F, qa QV w me N c F ∧ (∀ k, vs k = none → F k = none) ∧ ∀ k x, vs k = some x → ∃ v, F k = some v ∧ xK w B v x
  base : B ≤ en ∧ B ≤ me
def zb4 (en : Nat) (ticks : Int) (bk ms : Nat) : Array Value := #[.pointer (some ⟨en, 0, none⟩), .int .i64 ticks, .pointer (some ⟨bk, 0, none⟩), .map (some ms)]
def Xh (x : Int × Int × Int) : Value := .agg #[.int .i64 x.1, .int .i64 x.2.1, .int .i64 0, .int .u64 x.2.2]
structure jf (w : World) (B N ss en bk ms : Nat) (ticks : Int) (ses : Int → Option (Int × Int × Int)) : Prop where
  blk : w.heap[ss]? = some (.cells (zb4 en ticks bk ms) 133 (0, 0))
  map : ∃ c, qa QV w ms N c (fun k => (ses k).map Xh)
  base : B ≤ ss ∧ B ≤ ms
section
variable {T M : List Nat} {B N st mst bk mb en me ss ms c : Nat} {w w1 : World} {s : SS} {ticks most spans writes : Int} {vs : Int → Option VS} {ses : Int → Option (Int × Int × Int)}
theorem Zg.ch {F : Int × Int → Option Value} {f : Int × Int → List xU} (h : Zg w B F f) (k : Ch T M B w w1) (ht : 210 ∉ T) : Zg w1 B F f :=
  ⟨h.1, fun x v e => k.R (h.2.1 x v e) (by intro q hq; rcases List.mem_cons.1 hq with rfl | hq; exact ht; exact absurd hq (by decide +revert)), h.2.2⟩
theorem xg.ch (h : xg w B N st mst s) (k : Ch T M B w w1) (h1 : 118 ∉ T) (h2 : 210 ∉ T) (hm : mst ∉ M) : xg w1 B N st mst s := by
  obtain ⟨c, F, m1, m2⟩ := h.map
  exact ⟨k.cell h.blk h1, ⟨c, F, m1.ch k hm, m2.ch k h2⟩, h.base⟩
theorem qp.ch (h : qp w B N bk mb ticks) (k : Ch T M B w w1) (h1 : 182 ∉ T) (hm : mb ∉ M) : qp w1 B N bk mb ticks := by
  obtain ⟨c, F, m1⟩ := h.map
  exact ⟨k.cell h.blk h1, ⟨c, F, m1.ch k hm⟩, h.base⟩
theorem xK.ch {v : Value} {x : VS} (h : xK w B v x) (k : Ch T M B w w1) (h1 : 78 ∉ T) (h2 : 208 ∉ T) : xK w1 B v x := by
  obtain ⟨A1, c1, A2, c2, e, r1, r2⟩ := h
  exact ⟨A1, c1, A2, c2, e, k.R r1 (by intro q hq; rcases List.mem_cons.1 hq with rfl | hq; exact h1; exact absurd hq (by decide +revert)), k.R r2 (by intro q hq; rcases List.mem_cons.1 hq with rfl | hq; exact h2; exact absurd hq (by decide +revert))⟩
theorem jd.ch (h : jd w B N en st me most spans writes c vs) (k : Ch T M B w w1) (h1 : 125 ∉ T) (h2 : 78 ∉ T) (h3 : 208 ∉ T) (hm : me ∉ M) : jd w1 B N en st me most spans writes c vs := by
  obtain ⟨F, m1, m2, m3⟩ := h.map
  refine ⟨k.cell h.blk h1, ⟨F, m1.ch k hm, m2, fun x y e => ?_⟩, h.base⟩
  obtain ⟨v, e1, e2⟩ := m3 x y e
  exact ⟨v, e1, e2.ch k h2 h3⟩
theorem jf.ch (h : jf w B N ss en bk ms ticks ses) (k : Ch T M B w w1) (h1 : 133 ∉ T) (hm : ms ∉ M) : jf w1 B N ss en bk ms ticks ses := by
  obtain ⟨c, m1⟩ := h.map
  exact ⟨k.cell h.blk h1, ⟨c, m1.ch k hm⟩, h.base⟩
theorem xg.below (h : xg w B N st mst s) (hb : Below w.heap.size w w1) : xg w1 B N st mst s :=
  h.ch (T := []) (M := []) (Ch.of_below hb (Nat.le_trans h.base.1 (Nat.le_of_lt (zF h.blk))) (fun m hm => by cases hm)) (fun h => by cases h) (fun h => by cases h) (fun h => by cases h)
theorem qp.below (h : qp w B N bk mb ticks) (hb : Below w.heap.size w w1) : qp w1 B N bk mb ticks :=
  h.ch (T := []) (M := []) (Ch.of_below hb (Nat.le_trans h.base.1 (Nat.le_of_lt (zF h.blk))) (fun m hm => by cases hm)) (fun h => by cases h) (fun h => by cases h)
theorem jd.below (h : jd w B N en st me most spans writes c vs) (hb : Below w.heap.size w w1) : jd w1 B N en st me most spans writes c vs :=
  h.ch (T := []) (M := []) (Ch.of_below hb (Nat.le_trans h.base.1 (Nat.le_of_lt (zF h.blk))) (fun m hm => by cases hm)) (fun h => by cases h) (fun h => by cases h) (fun h => by cases h) (fun h => by cases h)
theorem jf.below (h : jf w B N ss en bk ms ticks ses) (hb : Below w.heap.size w w1) : jf w1 B N ss en bk ms ticks ses :=
  h.ch (T := []) (M := []) (Ch.of_below hb (Nat.le_trans h.base.1 (Nat.le_of_lt (zF h.blk))) (fun m hm => by cases hm)) (fun h => by cases h) (fun h => by cases h)
theorem QL {a b t : Nat} {cs : Array Value} {x : Nat × Nat} {es : Array MapEntry} {k : Nat} (h1 : w.heap[a]? = some (.cells cs t x)) (h2 : w.heap[b]? = some (.map es k)) : a ≠ b := by
  rintro rfl
  rw [h1] at h2
  cases h2
theorem xg.lt (h : xg w B N st mst s) : B ≤ w.heap.size := Nat.le_trans h.base.1 (Nat.le_of_lt (zF h.blk))
theorem qp.lt (h : qp w B N bk mb ticks) : B ≤ w.heap.size := Nat.le_trans h.base.1 (Nat.le_of_lt (zF h.blk))
theorem jd.lt (h : jd w B N en st me most spans writes c vs) : B ≤ w.heap.size := Nat.le_trans h.base.1 (Nat.le_of_lt (zF h.blk))
theorem jf.lt (h : jf w B N ss en bk ms ticks ses) : B ≤ w.heap.size := Nat.le_trans h.base.1 (Nat.le_of_lt (zF h.blk))
theorem qp.mapb (h : qp w B N bk mb ticks) : ∃ es k, w.heap[mb]? = some (.map es k) := by
  obtain ⟨c, F, m⟩ := h.map
  exact m.blk
theorem jf.mapb (h : jf w B N ss en bk ms ticks ses) : ∃ es k, w.heap[ms]? = some (.map es k) := by
  obtain ⟨c, m⟩ := h.map
  exact m.blk
theorem jd.mapb (h : jd w B N en st me most spans writes c vs) : ∃ es k, w.heap[me]? = some (.map es k) := by
  obtain ⟨F, m, _⟩ := h.map
  exact m.blk
theorem xg.mapb (h : xg w B N st mst s) : ∃ es k, w.heap[mst]? = some (.map es k) := by
  obtain ⟨c, F, m, _⟩ := h.map
  exact m.blk
theorem qQ {b : Nat} (h : ∃ es k, w.heap[b]? = some (.map es k)) : ∀ m, m ∈ [b] → ∃ es k, w.heap[m]? = some (.map es k) := by
  intro m hm
  rw [List.mem_singleton.1 hm]
  exact h
theorem qp.put (h : qp w B N bk mb ticks) {N' c : Nat} {F : Int → Option Value} (hm : qa QV w1 mb N' c F) (hg : w.grownBy w1 (some mb)) : qp w1 B N' bk mb ticks ∧ Ch [] [mb] B w w1 := by
  have hc : Ch [] [mb] B w w1 := Ch.of_map hg (List.mem_singleton.2 rfl) h.base.2 h.lt (qQ h.mapb)
  exact ⟨⟨hc.cell h.blk (by simp), ⟨c, F, hm⟩, h.base⟩, hc⟩
theorem jf.put (h : jf w B N ss en bk ms ticks ses) {N' c : Nat} {ses' : Int → Option (Int × Int × Int)} (hm : qa QV w1 ms N' c (fun k => (ses' k).map Xh)) (hg : w.grownBy w1 (some ms)) : jf w1 B N' ss en bk ms ticks ses' ∧ Ch [] [ms] B w w1 := by
  have hc : Ch [] [ms] B w w1 := Ch.of_map hg (List.mem_singleton.2 rfl) h.base.2 h.lt (qQ h.mapb)
  exact ⟨⟨hc.cell h.blk (by simp), ⟨c, hm⟩, h.base⟩, hc⟩
theorem xg.cells (h : xg w B N st mst s) : w.cell? ⟨st, 0, none⟩ = some (.int .u64 s.last) ∧ w.cell? ⟨st, 1, none⟩ = some (.int .i64 s.n) ∧ w.cell? ⟨st, 2, none⟩ = some (.int .i64 s.most) ∧ w.cell? ⟨st, 3, none⟩ = some (.map (some mst)) := ⟨za h.blk 0, za h.blk 1, za h.blk 2, za h.blk 3⟩
theorem qp.cells (h : qp w B N bk mb ticks) : w.cell? ⟨bk, 0, none⟩ = some (.int .i64 ticks) ∧ w.cell? ⟨bk, 1, none⟩ = some (.map (some mb)) := ⟨za h.blk 0, za h.blk 1⟩
theorem jd.cells (h : jd w B N en st me most spans writes c vs) : w.cell? ⟨en, 0, none⟩ = some (.pointer (some ⟨st, 0, none⟩)) ∧ w.cell? ⟨en, 1, none⟩ = some (.int .i64 most) ∧ w.cell? ⟨en, 2, none⟩ = some (.int .i64 spans) ∧ w.cell? ⟨en, 3, none⟩ = some (.int .i64 writes) ∧ w.cell? ⟨en, 4, none⟩ = some (.map (some me)) := ⟨za h.blk 0, za h.blk 1, za h.blk 2, za h.blk 3, za h.blk 4⟩
theorem jf.cells (h : jf w B N ss en bk ms ticks ses) : w.cell? ⟨ss, 0, none⟩ = some (.pointer (some ⟨en, 0, none⟩)) ∧ w.cell? ⟨ss, 1, none⟩ = some (.int .i64 ticks) ∧ w.cell? ⟨ss, 2, none⟩ = some (.pointer (some ⟨bk, 0, none⟩)) ∧ w.cell? ⟨ss, 3, none⟩ = some (.map (some ms)) := ⟨za h.blk 0, za h.blk 1, za h.blk 2, za h.blk 3⟩
theorem xg.mono (h : xg w B N st mst s) {N' : Nat} (hN : N ≤ N') : xg w B N' st mst s := by
  obtain ⟨c, F, m, r⟩ := h.map
  exact ⟨h.blk, ⟨c, F, m.mono hN, r⟩, h.base⟩
theorem qp.mono (h : qp w B N bk mb ticks) {N' : Nat} (hN : N ≤ N') : qp w B N' bk mb ticks := by
  obtain ⟨c, F, m⟩ := h.map
  exact ⟨h.blk, ⟨c, F, m.mono hN⟩, h.base⟩
theorem jd.mono (h : jd w B N en st me most spans writes c vs) {N' : Nat} (hN : N ≤ N') : jd w B N' en st me most spans writes c vs := by
  obtain ⟨F, m, r⟩ := h.map
  exact ⟨h.blk, ⟨F, m.mono hN, r⟩, h.base⟩
theorem jf.mono (h : jf w B N ss en bk ms ticks ses) {N' : Nat} (hN : N ≤ N') : jf w B N' ss en bk ms ticks ses := by
  obtain ⟨c, m⟩ := h.map
  exact ⟨h.blk, ⟨c, m.mono hN⟩, h.base⟩
end
structure Ix where
  ss : Nat
  en : Nat
  st : Nat
  bk : Nat
  ms : Nat
  me : Nat
  mst : Nat
  mb : Nat
  ticks : Int
  most : Int
  spans : Int
  writes : Int
structure Sg where
  s : SS
  nv : Nat
  vs : Int → Option VS
  ses : Int → Option (Int × Int × Int)
def TS : List Nat := [133, 125, 118, 182, 210]
def MS (x : Ix) : List Nat := [x.ms, x.me, x.mst, x.mb]
structure ym (w : World) (B N : Nat) (x : Ix) (g : Sg) : Prop where
  st : xg w B N x.st x.mst g.s
  en : jd w B N x.en x.st x.me x.most x.spans x.writes g.nv g.vs
  bk : qp w B N x.bk x.mb x.ticks
  ss : jf w B N x.ss x.en x.bk x.ms x.ticks g.ses
  ne : x.ms ≠ x.me ∧ x.ms ≠ x.mst ∧ x.ms ≠ x.mb ∧ x.me ≠ x.mst ∧ x.me ≠ x.mb ∧ x.mst ≠ x.mb
section
variable {B N N' : Nat} {w w1 : World} {x : Ix} {g : Sg}
theorem ym.isMap (h : ym w B N x g) : ∀ m, m ∈ MS x → ∃ es c, w.heap[m]? = some (.map es c) := by
  intro m hm
  simp only [MS, List.mem_cons, List.not_mem_nil, or_false] at hm
  rcases hm with rfl | rfl | rfl | rfl
  · exact h.ss.mapb
  · exact h.en.mapb
  · exact h.st.mapb
  · exact h.bk.mapb
theorem ym.lt (h : ym w B N x g) : B ≤ w.heap.size := h.st.lt
theorem ym.below (h : ym w B N x g) (hb : Below w.heap.size w w1) : ym w1 B N x g := ⟨h.st.below hb, h.en.below hb, h.bk.below hb, h.ss.below hb, h.ne⟩
theorem ym.chb (h : ym w B N x g) (hb : Below w.heap.size w w1) : Ch TS (MS x) B w w1 := Ch.of_below hb h.lt h.isMap
theorem ym.mono (h : ym w B N x g) (hN : N ≤ N') : ym w B N' x g := ⟨h.st.mono hN, h.en.mono hN, h.bk.mono hN, h.ss.mono hN, h.ne⟩
theorem ym.of_store (h : ym w B N x g) (hN : N ≤ N') {s' : SS} (k : xg w1 B N' x.st x.mst s') (hc : Ch [118, 210] [x.mst] B w w1) : ym w1 B N' x { g with s := s' } ∧ Ch TS (MS x) B w w1 :=
  ⟨⟨k, (h.en.ch hc (by decide) (by decide) (by decide) (by simpa using h.ne.2.2.2.1)).mono hN, (h.bk.ch hc (by decide) (by simpa using h.ne.2.2.2.2.2.symm)).mono hN, (h.ss.ch hc (by decide) (by simpa using h.ne.2.1)).mono hN, h.ne⟩, hc.mono (by decide) (by simp [MS]) h.isMap⟩
theorem ym.of_eng (h : ym w B N x g) (hN : N ≤ N') {nv : Nat} {vs : Int → Option VS} (k : jd w1 B N' x.en x.st x.me x.most x.spans x.writes nv vs) (hc : Ch [] [x.me] B w w1) : ym w1 B N' x { g with nv := nv, vs := vs } ∧ Ch TS (MS x) B w w1 :=
  ⟨⟨(h.st.ch hc (by decide) (by decide) (by simpa using h.ne.2.2.2.1.symm)).mono hN, k, (h.bk.ch hc (by decide) (by simpa using h.ne.2.2.2.2.1.symm)).mono hN, (h.ss.ch hc (by decide) (by simpa using h.ne.1)).mono hN, h.ne⟩, hc.mono (by decide) (by simp [MS]) h.isMap⟩
theorem ym.of_book (h : ym w B N x g) (hN : N ≤ N') (k : qp w1 B N' x.bk x.mb x.ticks) (hc : Ch [] [x.mb] B w w1) : ym w1 B N' x g ∧ Ch TS (MS x) B w w1 :=
  ⟨⟨(h.st.ch hc (by decide) (by decide) (by simpa using h.ne.2.2.2.2.2)).mono hN, (h.en.ch hc (by decide) (by decide) (by decide) (by simpa using h.ne.2.2.2.2.1)).mono hN, k, (h.ss.ch hc (by decide) (by simpa using h.ne.2.2.1)).mono hN, h.ne⟩, hc.mono (by decide) (by simp [MS]) h.isMap⟩
theorem ym.of_ses (h : ym w B N x g) (hN : N ≤ N') {ses : Int → Option (Int × Int × Int)} (k : jf w1 B N' x.ss x.en x.bk x.ms x.ticks ses) (hc : Ch [] [x.ms] B w w1) : ym w1 B N' x { g with ses := ses } ∧ Ch TS (MS x) B w w1 :=
  ⟨⟨(h.st.ch hc (by decide) (by decide) (by simpa using h.ne.2.1.symm)).mono hN, (h.en.ch hc (by decide) (by decide) (by decide) (by simpa using h.ne.1.symm)).mono hN, (h.bk.ch hc (by decide) (by simpa using h.ne.2.2.1.symm)).mono hN, k, h.ne⟩, hc.mono (by decide) (by simp [MS]) h.isMap⟩
end
def yA : List S78 := [⟨0, 0, 40⟩, ⟨1, 0, 40⟩, ⟨2, 0, 20⟩, ⟨2, 24, 40⟩, ⟨3, 0, 40⟩]
def zY : List S81 := [⟨2, 4, 2⟩, ⟨2, 8, 4⟩, ⟨3, 4, 4⟩]
def okA (a : Int) : Prop := a = 0 ∨ a = 2 ∨ (24 ≤ a ∧ a < 40)
instance (a : Int) : Decidable (okA a) := by unfold okA; infer_instance
theorem kZ {a : Int} (h : okA a) : 0 ≤ a ∧ a < 256 := by unfold okA at h; omega
theorem vR {P : Int → Prop} (h0 : P 0) (h2 : P 2) (h : ∀ i : Fin 16, P (24 + (i.val : Int))) (a : Int) (ha : okA a) : P a := by
  rcases ha with rfl | rfl | ⟨h1, h3⟩
  · exact h0
  · exact h2
  · have := h ⟨(a - 24).toNat, by omega⟩
    rwa [show (24 : Int) + (((⟨(a - 24).toNat, by omega⟩ : Fin 16).val : Nat) : Int) = a by simp; omega] at this
end Go.Proofs.YtlalbohhopmpdaaGreat.Top
