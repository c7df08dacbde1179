/- Words and walks for TopBlind (made of the session's own texts; each part by itself). -/
import Derived.RegionTactic
import Derived.ChangeAlike
import Derived.Outline
import Derived.Lib.Hide
import Derived.WalkSpells
import Derived.Laws.CopyOwn
import Derived.Deep.DeepCutAuto
import Derived.Deep.DeepMust
import Derived.Deep.RegionLaw
import Derived.Test.YtlalbohhopmpdaaGreatZTopBlind15
set_option maxRecDepth 100000
set_option maxHeartbeats 8000000
set_option linter.unusedVariables false
set_option linter.unusedSimpArgs false
namespace Go.Proofs.YtlalbohhopmpdaaGreat.Ring
open Go.RowKit Go.YW.PrintWords Go.YW.PrintLast Go.YW.PrintMore
attribute [local go_sem] zk zo
structure yT (w : World) (gf g B M : Nat) (q : List Int) (bad : Bool) : Prop where
  f : w.heap[gf]? = some (.cells #[.pointer (some ⟨g, 0, none⟩), .bool bad] 184 (0, 0))
  r : yt w g B M q
theorem yT.below {w w1 : World} {gf g B M : Nat} {q : List Int} {bad : Bool} (h : yT w gf g B M q bad) (hb : Below w.heap.size w w1) : yT w1 gf g B M q bad := ⟨zb h.f hb, h.r.below hb⟩
theorem yT.ne {w : World} {gf g B M : Nat} {q : List Int} {bad : Bool} (h : yT w gf g B M q bad) : gf ≠ g ∧ gf ≠ B := by
  obtain ⟨f, bs, hg, hB, _⟩ := h.r.ex
  have hf := h.f
  constructor
  · rintro rfl
    rw [hf] at hg
    simp at hg
  · rintro rfl
    rw [hf] at hB
    simp at hB
theorem yT.fr {w w1 : World} {gf g B M : Nat} {q q1 : List Int} {bad : Bool} (h : yT w gf g B M q bad) (hr : yt w1 g B M q1) (hf : Fr2 g B w w1) : yT w1 gf g B M q1 bad := ⟨(hf.block gf (zF h.f) h.ne.1 h.ne.2).trans h.f, hr⟩
theorem ZL (n : Int) (M : Nat) (hM : M = (min (max n 260) 65536).toNat) (w : World) :
    Calls Tryz.prog 54 #[.int .i64 n] w fun e w' => ∃ gf g B, e = .returned (.pointer (some ⟨gf, 0, none⟩)) ∧ yT w' gf g B M [] false ∧ w.heap.size ≤ gf ∧ w.heap.size ≤ g ∧ w.heap.size ≤ B ∧ Below w.heap.size w w' := by
  have hu184 := Tryz.underlying184
  obtain ⟨n1, hn1⟩ : ∃ n1 : Int, n1 = max n 260 := ⟨_, rfl⟩
  have N1 := hQ hn1
  have N2 := hQ (show (min (max n1 0) 65536).toNat = M by omega)
  clear hn1 hM
  go_enter Tryz.func54, Tryz.ntmps54
  go_wp2_with ((with_reducible refine zN (N := 4) rfl ?_); refine Zr rfl (.tmp 3) (.const (.int .i64 260)) _ rfl .i64 n 260 n1 rfl rfl N1.out ?_)
  refine (vK n1 _).mono ?_
  rintro e w1 ⟨g, B, rfl, hr, hg, hB, hb⟩
  rw [N2.out] at hr
  have A1 := hQ hr
  have A2 := hQ hb
  have A3 := hQ (And.intro hg hB)
  clear hr hb hg hB
  go_wp2_with (fail)
  go_ret
  exact ⟨_, g, B, rfl, ⟨zi _ _, A1.out.below ((Below.refl _ _).alloc (Nat.le_refl _) _)⟩, A2.out.size, A3.out.1, A3.out.2, A2.out.alloc A2.out.size _⟩
theorem XX (w : World) (gf g B M : Nat) (q : List Int) (bad : Bool) (h : yT w gf g B M q bad) (A0 : Option Addr) (n c0 : Nat) (l : List Int) (hn : n = l.length) (hr : Kd.C (Kd.int .u8) w A0 n l) (hc0 : n ≤ c0) (hne : 0 < n → ∀ a, A0 = some a → a.block ≠ B) (m : Nat) (hm : m = if bad then 0 else min n (M - q.length)) :
    Calls Tryz.prog 59 #[.pointer (some ⟨gf, 0, none⟩), .slice A0 n c0] w fun e w' => e = .returned (.int .i64 (m : Int)) ∧ yT w' gf g B M (q ++ l.take m) bad ∧ Fr2 g B w w' := by
  obtain ⟨c0_, c1⟩ := XP h.f
  have hu184 := Tryz.underlying184
  have H := hQ h
  have H1 := hQ hr
  have H2 := hQ hne
  have H3 := hQ hm
  have H4 := hQ hn
  clear h hr hne hm hn
  cases bad with
  | true =>
    go_enter Tryz.func59, Tryz.ntmps59
    go_wp2_with (fail)
    go_ret
    have hm := H3.out
    simp only [if_true] at hm
    subst hm
    exact ⟨rfl, by rw [List.take_zero, List.append_nil]; exact H.out, Fr2.of_below (Below.refl _ _)⟩
  | false =>
    go_enter Tryz.func59, Tryz.ntmps59
    go_wp2_with (fail)
    refine (Vp w g B M q H.out.r A0 n c0 l H4.out H1.out hc0 H2.out m (by have := H3.out; simpa using this)).mono ?_
    rintro e w1 ⟨rfl, hr, hf⟩
    go_wp2
    go_ret
    exact ⟨rfl, H.out.fr hr hf, hf⟩
theorem zcV {w : World} {g t : Nat} {x y z a b c : Value} (h : w.heap[g]? = some (.cells #[x, y, z] t (0, 0))) : (((w.setCell ⟨g, 0, none⟩ a).setCell ⟨g, 1, none⟩ b).setCell ⟨g, 2, none⟩ c).heap[g]? = some (.cells #[a, b, c] t (0, 0)) := zQ (zQ (zQ h 0 a rfl) 1 b rfl) 2 c rfl
def xh (C : List Int → Int × Int × List Int × Int × Int) (q : List Int) (bad : Bool) : Int × Int × List Int × Int × Int := if bad then (0, 0, [], 0, 2) else C (q.take 260)
theorem Zn (C : List Int → Int × Int × List Int × Int × Int) (w : World) (gf g B M : Nat) (q : List Int) (bad : Bool) (h : yT w gf g B M q bad)
    (hC : ∀ (W : World) (A : Option Addr) (n c : Nat), n = (q.take 260).length → Kd.C (Kd.int .u8) W A n (q.take 260) → n ≤ c → Calls Tryz.prog 130 #[.slice A n c] W fun e w' => ∃ v : Value, e = .returned (.tuple #[.agg #[.int .i64 (C (q.take 260)).1, .int .i64 (C (q.take 260)).2.1, v], .int .i64 (C (q.take 260)).2.2.2.1, .int .i64 (C (q.take 260)).2.2.2.2]) ∧ Kd.R (Kd.int .u8) 5 w' W.heap.size (fun _ => True) v (C (q.take 260)).2.2.1 ∧ Below W.heap.size W w')
    (t u : Int) (p : List Int) (n e0 : Int) (hf : xh C q bad = (t, u, p, n, e0)) :
    Calls Tryz.prog 102 #[.pointer (some ⟨gf, 0, none⟩)] w fun e w' => ∃ A c, e = .returned (.tuple #[.agg #[.int .i64 t, .int .i64 u, .slice A p.length c], .int .i64 n, .int .i64 e0]) ∧ Kd.R (Kd.int .u8) 5 w' w.heap.size (fun _ => True) (.slice A p.length c) p ∧ Below w.heap.size w w' := by
  obtain ⟨c0_, c1⟩ := XP h.f
  have hgl := zF h.f
  have hu184 := Tryz.underlying184
  have hu141 := Tryz.underlying141
  have hmf : ∀ (fn : Fn) (first cap : Array Value) (w : World), (Instr.makeFunc fn first cap).run Tryz.prog w = .ok (.func fn first cap) w := fun _ _ _ _ => rfl
  have H := hQ h
  have H1 := hQ hC
  clear h hC
  have d0 : (w.alloc (.cells #[.int .i64 0, .int .i64 0, .slice none 0 0] 141)).cell? ⟨gf, 0, none⟩ = some (.pointer (some ⟨g, 0, none⟩)) := (World.cell?_alloc_lt _ _ _ hgl).trans c0_
  have d1 : (w.alloc (.cells #[.int .i64 0, .int .i64 0, .slice none 0 0] 141)).cell? ⟨gf, 1, none⟩ = some (.bool bad) := (World.cell?_alloc_lt _ _ _ hgl).trans c1
  cases bad with
  | true =>
    have HF := hQ hf
    clear hf
    go_enter Tryz.func102, Tryz.ntmps102
    go_wp2_with (fail)
    have hW := zi w (.cells #[.int .i64 0, .int .i64 0, .slice none 0 0] 141 (0, 0))
    have hWB := (Below.refl w.heap.size w).alloc (Nat.le_refl _) (.cells #[.int .i64 0, .int .i64 0, .slice none 0 0] 141)
    have hr0 := (za hW 0).trans rfl
    have hr1 := (za hW 1).trans rfl
    have hr2 := (za hW 2).trans rfl
    have hf := HF.out
    simp only [xh, if_true, Prod.mk.injEq] at hf
    obtain ⟨rfl, rfl, rfl, rfl, rfl⟩ := hf
    exact bodyPost_ret (v := .tuple #[.agg #[.int .i64 0, .int .i64 0, .slice none 0 0], .int .i64 0, .int .i64 2]) (by simp [results, Tryz.results102, go_sem, hr0, hr1, hr2]) rfl ⟨none, 0, rfl, Kd.ql _ _ _ _ _, hWB⟩
  | false =>
    have HF := hQ hf
    obtain ⟨k, hk⟩ : ∃ k, k = (q.take (260 : Int).toNat).length := ⟨_, rfl⟩
    have HK := hQ hk
    clear hf hk
    go_enter Tryz.func102, Tryz.ntmps102
    go_wp2_with (fail)
    refine (Zo _ g B M q (H.out.r.below ((Below.refl _ _).alloc (Nat.le_refl _) _)) 260 k HK.out).mono ?_
    rintro e w1 ⟨A1, c1', rfl, hR, hb⟩
    rw [show (260 : Int).toNat = 260 by omega] at hR
    have B1 := hQ (zb (zi w (.cells #[.int .i64 0, .int .i64 0, .slice none 0 0] 141 (0, 0))) hb)
    have B2 := hQ (((Below.refl w.heap.size w).alloc (Nat.le_refl _) _).trans (hb.mono (show w.heap.size ≤ _ by simp)))
    have B3 := hQ hR
    have B4 := hQ hb.size
    clear hb hR d0 d1
    go_wp2_with (fail)
    have hK := HK.out
    rw [show (260 : Int).toNat = 260 by omega] at hK
    refine (H1.out _ A1 k c1' hK (by have := (Kd.zB B3.out).2.2; rwa [← (Kd.zB B3.out).1] at this) (Kd.zB B3.out).2.1).mono ?_
    have hf := HF.out
    simp only [xh, Bool.false_eq_true, if_false] at hf
    rw [hf]
    rintro e w2 ⟨v, rfl, hR, hb⟩
    obtain ⟨A2, c2, rfl⟩ := Kd.yc hR
    have D1 := hQ (zb B1.out hb)
    have D2 := hQ (zf B2.out B2.out.size hb)
    have D3 := hQ hR
    obtain ⟨e0_, e1_, e2_⟩ := zS D1.out
    obtain ⟨f0_, f1_, f2_⟩ := xD D1.out
    clear B1 B2 B3 hR hb hf hK
    go_wp2_with (fail)
    have hW := zcV (a := .int .i64 t) (b := .int .i64 u) (c := .slice A2 p.length c2) D1.out
    have hr0 := (za hW 0).trans rfl
    have hr1 := (za hW 1).trans rfl
    have hr2 := (za hW 2).trans rfl
    have hWB : Below w.heap.size w (((w2.setCell ⟨w.heap.size, 0, none⟩ (.int .i64 t)).setCell ⟨w.heap.size, 1, none⟩ (.int .i64 u)).setCell ⟨w.heap.size, 2, none⟩ (.slice A2 p.length c2)) := zM (zM (zM D2.out (Nat.le_refl _)) (Nat.le_refl _)) (Nat.le_refl _)
    have hwl : w.heap.size < w1.heap.size := by have := B4.out; simp at this; omega
    have hR2 := Kd.kw (Kd.kw (Kd.kw (Kd.xZ D3.out) (p := ⟨w.heap.size, 0, none⟩) (fun k_ h_ => by have := h_.2.1; show k_ ≠ w.heap.size; omega) (.int .i64 t)) (p := ⟨w.heap.size, 1, none⟩) (fun k_ h_ => by have := h_.2.1; show k_ ≠ w.heap.size; omega) (.int .i64 u)) (p := ⟨w.heap.size, 2, none⟩) (fun k_ h_ => by have := h_.2.1; show k_ ≠ w.heap.size; omega) (.slice A2 p.length c2)
    exact bodyPost_ret (v := .tuple #[.agg #[.int .i64 t, .int .i64 u, .slice A2 p.length c2], .int .i64 n, .int .i64 e0]) (by simp [results, Tryz.results102, go_sem, hr0, hr1, hr2]) rfl ⟨A2, c2, rfl, Kd.yX (Kd.zU hR2 (by omega)) (fun _ _ => trivial), hWB⟩
structure Fr3 (a b c : Nat) (w w' : World) : Prop where
  os : w'.os = w.os
  tape : w'.tape = w.tape
  output : w'.output = w.output
  size : w.heap.size ≤ w'.heap.size
  block : ∀ i, i < w.heap.size → i ≠ a → i ≠ b → i ≠ c → w'.heap[i]? = w.heap[i]?
theorem Fr3.trans {a b c : Nat} {w w1 w2 : World} (h : Fr3 a b c w w1) (k : Fr3 a b c w1 w2) : Fr3 a b c w w2 := ⟨k.os.trans h.os, k.tape.trans h.tape, k.output.trans h.output, Nat.le_trans h.size k.size, fun i hi h1 h2 h3 => (k.block i (Nat.lt_of_lt_of_le hi h.size) h1 h2 h3).trans (h.block i hi h1 h2 h3)⟩
theorem Fr3.of_below {a b c : Nat} {w w1 : World} (h : Below w.heap.size w w1) : Fr3 a b c w w1 := ⟨h.os, h.tape, h.output, h.size, fun i hi _ _ _ => h.block i hi⟩
theorem Fr3.of_fr2 {a b c : Nat} {w w1 : World} (h : Fr2 b c w w1) : Fr3 a b c w w1 := ⟨h.os, h.tape, h.output, h.size, fun i hi _ h2 h3 => h.block i hi h2 h3⟩
theorem Fr3.set {a b c : Nat} (w : World) (i : Nat) (v : Value) : Fr3 a b c w (w.setCell ⟨a, i, none⟩ v) := ⟨rfl, rfl, rfl, by simp [World.setCell], fun j hj h1 h2 h3 => Below.heap_setCell w _ v j h1⟩
theorem Fr3.new {a b c x : Nat} {w w1 : World} (h : Fr3 a b c w w1) (hx : w.heap.size ≤ x) (i : Nat) (v : Value) : Fr3 a b c w (w1.setCell ⟨x, i, none⟩ v) := ⟨h.os, h.tape, h.output, by have := h.size; simpa [World.setCell] using this, fun j hj h1 h2 h3 => (Below.heap_setCell w1 ⟨x, i, none⟩ v j (by show j ≠ x; omega)).trans (h.block j hj h1 h2 h3)⟩
theorem yT.far {w : World} {gf g B M x i : Nat} {v : Value} {q : List Int} {bad : Bool} (h : yT w gf g B M q bad) (h1 : gf ≠ x) (h2 : g ≠ x) (h3 : B ≠ x) : yT (w.setCell ⟨x, i, none⟩ v) gf g B M q bad := ⟨(Below.heap_setCell w ⟨x, i, none⟩ v gf h1).trans h.f, h.r.keep (Below.heap_setCell w ⟨x, i, none⟩ v g h2) (Below.heap_setCell w ⟨x, i, none⟩ v B h3)⟩
def qj (C : List Int → Int × Int × List Int × Int × Int) (q : List Int) (bad : Bool) : List Int × Bool := if (xh C q bad).2.2.2.2 = 2 then ([], true) else (q.drop (xh C q bad).2.2.2.1.toNat, bad)
def CutIs (C : List Int → Int × Int × List Int × Int × Int) (q : List Int) : Prop := ∀ (W : World) (A : Option Addr) (n c : Nat), n = (q.take 260).length → Kd.C (Kd.int .u8) W A n (q.take 260) → n ≤ c → Calls Tryz.prog 130 #[.slice A n c] W fun e w' => ∃ v : Value, e = .returned (.tuple #[.agg #[.int .i64 (C (q.take 260)).1, .int .i64 (C (q.take 260)).2.1, v], .int .i64 (C (q.take 260)).2.2.2.1, .int .i64 (C (q.take 260)).2.2.2.2]) ∧ Kd.R (Kd.int .u8) 5 w' W.heap.size (fun _ => True) v (C (q.take 260)).2.2.1 ∧ Below W.heap.size W w'
theorem kr (C : List Int → Int × Int × List Int × Int × Int) (w : World) (gf g B M : Nat) (q : List Int) (bad : Bool) (h : yT w gf g B M q bad) (hC : CutIs C q) :
    Calls Tryz.prog 60 #[.pointer (some ⟨gf, 0, none⟩)] w fun e w' => e = .returned (.bool (!((xh C q bad).2.2.2.2 == 3))) ∧ Below w.heap.size w w' := by
  have hu141 := Tryz.underlying141
  obtain ⟨t, u, p, n, e0, hf⟩ : ∃ t u p n e0, xh C q bad = (t, u, p, n, e0) := ⟨_, _, _, _, _, rfl⟩
  rw [hf]
  have HF := hQ hf
  clear hf
  go_enter Tryz.func60, Tryz.ntmps60
  go_wp2_with (fail)
  refine (Zn C w gf g B M q bad h hC t u p n e0 HF.out).mono ?_
  rintro e w1 ⟨A, c, rfl, hR, hb⟩
  go_wp2_with (fail)
  go_ret
  exact ⟨rfl, hb.alloc hb.size _⟩
theorem kJ (C : List Int → Int × Int × List Int × Int × Int) (w : World) (gf g B M : Nat) (q : List Int) (bad : Bool) (h : yT w gf g B M q bad) (hC : CutIs C q) (t u : Int) (p : List Int) (n e0 : Int) (hf : xh C q bad = (t, u, p, n, e0)) :
    Calls Tryz.prog 62 #[.pointer (some ⟨gf, 0, none⟩)] w fun e w' => ∃ A c, e = .returned (.tuple #[.agg #[.int .i64 t, .int .i64 u, .slice A p.length c], .int .i64 e0]) ∧ Kd.R (Kd.int .u8) 5 w' w.heap.size (fun _ => True) (.slice A p.length c) p ∧ yT w' gf g B M (qj C q bad).1 (qj C q bad).2 ∧ Fr3 gf g B w w' := by
  have hu184 := Tryz.underlying184
  have hu141 := Tryz.underlying141
  have hmf : ∀ (fn : Fn) (first cap : Array Value) (w : World), (Instr.makeFunc fn first cap).run Tryz.prog w = .ok (.func fn first cap) w := fun _ _ _ _ => rfl
  have H := hQ h
  have H1 := hQ hC
  have HF := hQ hf
  clear h hC hf
  by_cases he : e0 = 2
  · subst he
    go_enter Tryz.func62, Tryz.ntmps62
    go_wp2_with (fail)
    refine (Zn C _ gf g B M q bad (H.out.below ((Below.refl _ _).alloc (Nat.le_refl _) _)) H1.out t u p n 2 HF.out).mono ?_
    rintro e w1 ⟨A, c, rfl, hR, hb⟩
    have B0 := hQ (zb (zi w (.cells #[.int .i64 0, .int .i64 0, .slice none 0 0] 141 (0, 0))) hb)
    have B1 := hQ ((H.out.below ((Below.refl _ _).alloc (Nat.le_refl _) _)).below hb)
    have B2 := hQ (((Below.refl w.heap.size w).alloc (Nat.le_refl _) _).trans (hb.mono (show w.heap.size ≤ _ by simp)))
    have B3 := hQ hR
    have hwl : w.heap.size < w1.heap.size := by have := hb.size; simp at this; omega
    have HWL := hQ hwl
    clear hR hb hwl
    have B4 := hQ (zg B0.out (.cells #[.int .i64 t, .int .i64 u, .slice A p.length c] 141))
    have B5 := hQ (B1.out.below ((Below.refl _ _).alloc (Nat.le_refl _) (.cells #[.int .i64 t, .int .i64 u, .slice A p.length c] 141)))
    have B6 := hQ (zi w1 (.cells #[.int .i64 t, .int .i64 u, .slice A p.length c] 141 (0, 0)))
    have B7 := hQ (Kd.qg B3.out (.cells #[.int .i64 t, .int .i64 u, .slice A p.length c] 141))
    obtain ⟨c0_, c1⟩ := XP B5.out.f
    obtain ⟨f0_, f1⟩ := Vu B5.out.f
    have WS := hQ (show w.heap.size < (w.alloc (.cells #[.int .i64 0, .int .i64 0, .slice none 0 0] 141)).heap.size by simp)
    have WS2 := hQ (show w.heap.size ≤ (w.alloc (.cells #[.int .i64 0, .int .i64 0, .slice none 0 0] 141)).heap.size by simp)
    have NX := hQ (show qj C q bad = ([], true) by unfold qj; rw [HF.out]; rfl)
    go_wp2_with (fail)
    refine (zdJ _ g B M q B5.out.r).mono ?_
    rintro e w3 ⟨rfl, hb⟩
    have C0 := hQ (zb B4.out hb)
    have C1 := hQ (B5.out.below hb)
    have C2 := hQ (zb B6.out hb)
    have C3 := hQ (Kd.zz B7.out hb)
    have C4 := hQ (zf (B2.out.alloc B2.out.size (.cells #[.int .i64 t, .int .i64 u, .slice A p.length c] 141)) (by have := HWL.out; simp; omega) hb)
    clear B4 B5 B6 B7 hb c0_ c1 f0_ f1
    obtain ⟨c0_, c1⟩ := XP C1.out.f
    obtain ⟨f0_, f1⟩ := Vu C1.out.f
    have hlt := H.out.r.lt
    have hfl := zF H.out.f
    have hne := H.out.ne
    have D0 := yI C0.out (show w.heap.size ≠ (⟨gf, 1, none⟩ : Addr).block by show w.heap.size ≠ gf; omega) (.bool true)
    have D1 := zQ C1.out.f 1 (.bool true) rfl
    have D2 := yI C2.out (show w1.heap.size ≠ (⟨gf, 1, none⟩ : Addr).block by show w1.heap.size ≠ gf; have := HWL.out; omega) (.bool true)
    have D3 := Kd.kw (Kd.xZ C3.out) (p := ⟨gf, 1, none⟩) (fun k_ h_ => by have := h_.2.1; have := WS.out; show k_ ≠ gf; omega) (.bool true)
    have D4 : yt (w3.setCell ⟨gf, 1, none⟩ (.bool true)) g B M q := C1.out.r.keep (Below.heap_setCell w3 ⟨gf, 1, none⟩ _ g (fun e => hne.1 e.symm)) (Below.heap_setCell w3 ⟨gf, 1, none⟩ _ B (fun e => hne.2 e.symm))
    have E0 := hQ D0
    have E1 := hQ D1
    have E2 := hQ D2
    have E3 := hQ D3
    have E4 := hQ D4
    clear D0 D1 D2 D3 D4
    go_wp2_with (fail)
    refine (vP _ g B M q E4.out (q.length : Int) q.length (by rw [Int.toNat_natCast, List.take_length])).mono ?_
    rintro e w4 ⟨At, ct, rfl, _, hr2, hf2⟩
    rw [Int.toNat_natCast, List.drop_length] at hr2
    have K1 := hQ ((hf2.block w.heap.size (zF E0.out) (by omega) (by omega)).trans E0.out)
    have K2 := hQ ((hf2.block w1.heap.size (zF E2.out) (by have := HWL.out; omega) (by have := HWL.out; omega)).trans E2.out)
    have K3 := hQ ((show yT w4 gf g B M [] true from ⟨(hf2.block gf (zF E1.out) hne.1 hne.2).trans E1.out, hr2⟩))
    have K4 := hQ (Kd.Yc (Kd.xZ E3.out) (fun k hk hl => hf2.block k hl (by have := hk.2.1; have := HWL.out; have := WS.out; omega) (by have := hk.2.1; have := HWL.out; have := WS.out; omega)))
    have K5 := hQ ((show Fr3 gf g B w w4 from ((Fr3.of_below C4.out).trans (Fr3.set w3 1 (.bool true))).trans (Fr3.of_fr2 hf2)))
    obtain ⟨x0, x1, x2⟩ := zS K1.out
    obtain ⟨y0, y1, y2⟩ := xD K1.out
    obtain ⟨z0, z1, z2⟩ := zS K2.out
    clear hr2 hf2
    go_wp2_with (fail)
    have hW := zcV (a := .int .i64 t) (b := .int .i64 u) (c := .slice A p.length c) K1.out
    have hr0 := (za hW 0).trans rfl
    have hr1 := (za hW 1).trans rfl
    have hr2 := (za hW 2).trans rfl
    have hR2 := Kd.kw (Kd.kw (Kd.kw (Kd.yX K4.out (fun k_ h_ => And.intro h_.1 (show k_ ≠ w.heap.size by have := h_.2.1; have := WS.out; omega))) (p := ⟨w.heap.size, 0, none⟩) (fun k_ h_ => h_.2) (.int .i64 t)) (p := ⟨w.heap.size, 1, none⟩) (fun k_ h_ => h_.2) (.int .i64 u)) (p := ⟨w.heap.size, 2, none⟩) (fun k_ h_ => h_.2) (.slice A p.length c)
    have hfin : Fr3 gf g B w (((w4.setCell ⟨w.heap.size, 0, none⟩ (.int .i64 t)).setCell ⟨w.heap.size, 1, none⟩ (.int .i64 u)).setCell ⟨w.heap.size, 2, none⟩ (.slice A p.length c)) := ((K5.out.new (Nat.le_refl _) 0 (.int .i64 t)).new (Nat.le_refl _) 1 (.int .i64 u)).new (Nat.le_refl _) 2 (.slice A p.length c)
    have hfl2 := ((K3.out.far (i := 0) (v := .int .i64 t) (x := w.heap.size) (by omega) (by omega) (by omega)).far (i := 1) (v := .int .i64 u) (x := w.heap.size) (by omega) (by omega) (by omega)).far (i := 2) (v := .slice A p.length c) (x := w.heap.size) (by omega) (by omega) (by omega)
    exact bodyPost_ret (v := .tuple #[.agg #[.int .i64 t, .int .i64 u, .slice A p.length c], .int .i64 2]) (by simp [results, Tryz.results62, go_sem, hr0, hr1, hr2]) rfl ⟨A, c, rfl, Kd.yX (Kd.zU hR2 WS2.out) (fun _ _ => trivial), by rw [NX.out]; exact hfl2, hfin⟩
  · have hd : (e0 == 2) = false := beq_eq_false_iff_ne.2 he
    go_enter Tryz.func62, Tryz.ntmps62
    go_wp2_with (fail)
    refine (Zn C _ gf g B M q bad (H.out.below ((Below.refl _ _).alloc (Nat.le_refl _) _)) H1.out t u p n e0 HF.out).mono ?_
    rintro e w1 ⟨A, c, rfl, hR, hb⟩
    have B0 := hQ (zb (zi w (.cells #[.int .i64 0, .int .i64 0, .slice none 0 0] 141 (0, 0))) hb)
    have B1 := hQ ((H.out.below ((Below.refl _ _).alloc (Nat.le_refl _) _)).below hb)
    have B2 := hQ (((Below.refl w.heap.size w).alloc (Nat.le_refl _) _).trans (hb.mono (show w.heap.size ≤ _ by simp)))
    have B3 := hQ hR
    have hwl : w.heap.size < w1.heap.size := by have := hb.size; simp at this; omega
    have HWL := hQ hwl
    clear hR hb hwl
    have B4 := hQ (zg B0.out (.cells #[.int .i64 t, .int .i64 u, .slice A p.length c] 141))
    have B5 := hQ (B1.out.below ((Below.refl _ _).alloc (Nat.le_refl _) (.cells #[.int .i64 t, .int .i64 u, .slice A p.length c] 141)))
    have B6 := hQ (zi w1 (.cells #[.int .i64 t, .int .i64 u, .slice A p.length c] 141 (0, 0)))
    have B7 := hQ (Kd.qg B3.out (.cells #[.int .i64 t, .int .i64 u, .slice A p.length c] 141))
    obtain ⟨c0_, c1⟩ := XP B5.out.f
    obtain ⟨f0_, f1⟩ := Vu B5.out.f
    have WS := hQ (show w.heap.size < (w.alloc (.cells #[.int .i64 0, .int .i64 0, .slice none 0 0] 141)).heap.size by simp)
    have WS2 := hQ (show w.heap.size ≤ (w.alloc (.cells #[.int .i64 0, .int .i64 0, .slice none 0 0] 141)).heap.size by simp)
    have NX := hQ (show qj C q bad = (q.drop n.toNat, bad) by unfold qj; rw [HF.out]; exact if_neg he)
    have hlt := H.out.r.lt
    have hfl := zF H.out.f
    have hne := H.out.ne
    have C4 := hQ (B2.out.alloc B2.out.size (.cells #[.int .i64 t, .int .i64 u, .slice A p.length c] 141))
    go_wp2_with (fail)
    refine (vP _ g B M q B5.out.r n _ rfl).mono ?_
    rintro e w4 ⟨At, ct, rfl, _, hr2, hf2⟩
    have K1 := hQ ((hf2.block w.heap.size (zF B4.out) (by omega) (by omega)).trans B4.out)
    have K2 := hQ ((hf2.block w1.heap.size (zF B6.out) (by have := HWL.out; omega) (by have := HWL.out; omega)).trans B6.out)
    have K3 := hQ (B5.out.fr hr2 hf2)
    have K4 := hQ (Kd.Yc (Kd.xZ B7.out) (fun k hk hl => hf2.block k hl (by have := hk.2.1; have := HWL.out; have := WS.out; omega) (by have := hk.2.1; have := HWL.out; have := WS.out; omega)))
    have K5 := hQ ((show Fr3 gf g B w w4 from (Fr3.of_below C4.out).trans (Fr3.of_fr2 hf2)))
    obtain ⟨x0, x1, x2⟩ := zS K1.out
    obtain ⟨y0, y1, y2⟩ := xD K1.out
    obtain ⟨z0, z1, z2⟩ := zS K2.out
    clear hr2 hf2
    go_wp2_with (fail)
    have hW := zcV (a := .int .i64 t) (b := .int .i64 u) (c := .slice A p.length c) K1.out
    have hr0 := (za hW 0).trans rfl
    have hr1 := (za hW 1).trans rfl
    have hr2 := (za hW 2).trans rfl
    have hR2 := Kd.kw (Kd.kw (Kd.kw (Kd.yX K4.out (fun k_ h_ => And.intro h_.1 (show k_ ≠ w.heap.size by have := h_.2.1; have := WS.out; omega))) (p := ⟨w.heap.size, 0, none⟩) (fun k_ h_ => h_.2) (.int .i64 t)) (p := ⟨w.heap.size, 1, none⟩) (fun k_ h_ => h_.2) (.int .i64 u)) (p := ⟨w.heap.size, 2, none⟩) (fun k_ h_ => h_.2) (.slice A p.length c)
    have hfin : Fr3 gf g B w (((w4.setCell ⟨w.heap.size, 0, none⟩ (.int .i64 t)).setCell ⟨w.heap.size, 1, none⟩ (.int .i64 u)).setCell ⟨w.heap.size, 2, none⟩ (.slice A p.length c)) := ((K5.out.new (Nat.le_refl _) 0 (.int .i64 t)).new (Nat.le_refl _) 1 (.int .i64 u)).new (Nat.le_refl _) 2 (.slice A p.length c)
    have hfl2 := ((K3.out.far (i := 0) (v := .int .i64 t) (x := w.heap.size) (by omega) (by omega) (by omega)).far (i := 1) (v := .int .i64 u) (x := w.heap.size) (by omega) (by omega) (by omega)).far (i := 2) (v := .slice A p.length c) (x := w.heap.size) (by omega) (by omega) (by omega)
    exact bodyPost_ret (v := .tuple #[.agg #[.int .i64 t, .int .i64 u, .slice A p.length c], .int .i64 e0]) (by simp [results, Tryz.results62, go_sem, hr0, hr1, hr2]) rfl ⟨A, c, rfl, Kd.yX (Kd.zU hR2 WS2.out) (fun _ _ => trivial), by rw [NX.out]; exact hfl2, hfin⟩
end Go.Proofs.YtlalbohhopmpdaaGreat.Ring
namespace Go.Proofs.YtlalbohhopmpdaaGreat.Top
open Go.RowKit Go.Proofs.YtlalbohhopmpdaaGreat.PTop Go.YW.PrintWords Go.YW.PrintLast Go.YW.PrintMore Go.Proofs.YtlalbohhopmpdaaGreat.Num
attribute [local go_sem] zk zo yN yO xu xw
theorem zdD : ∀ (W : World), (Instr.makeMap 116 none).run Tryz.prog W = .ok (.map (some W.heap.size)) (W.alloc (.map #[] 0)) := fun W => by simp [Instr.makeMap, go_sem, Tryz.underlying116]
theorem zdN : ∀ (W : World), (Instr.makeMap 180 none).run Tryz.prog W = .ok (.map (some W.heap.size)) (W.alloc (.map #[] 0)) := fun W => by simp [Instr.makeMap, go_sem, Tryz.underlying180]
theorem zdU : ∀ (W : World), (Instr.makeMap 123 none).run Tryz.prog W = .ok (.map (some W.heap.size)) (W.alloc (.map #[] 0)) := fun W => by simp [Instr.makeMap, go_sem, Tryz.underlying123]
theorem zdO : ∀ (W : World), (Instr.makeMap 131 none).run Tryz.prog W = .ok (.map (some W.heap.size)) (W.alloc (.map #[] 0)) := fun W => by simp [Instr.makeMap, go_sem, Tryz.underlying131]
theorem zea : ∀ (a b : Int) (m : Option Nat) (W : World), (Instr.build 118 #[(0, .int .u64 a), (2, .int .i64 b), (3, .map m)]).run Tryz.prog W = .ok (.agg #[.int .u64 a, .int .i64 0, .int .i64 b, .map m]) W := fun a b m W => by kernel_rfl
theorem zd2 : ∀ (a : Int) (m : Option Nat) (W : World), (Instr.build 182 #[(0, .int .i64 a), (1, .map m)]).run Tryz.prog W = .ok (.agg #[.int .i64 a, .map m]) W := fun a m W => by kernel_rfl
theorem zd5 : ∀ (p : Option Addr) (a b c : Int) (m : Option Nat) (W : World), (Instr.build 125 #[(0, .pointer p), (1, .int .i64 a), (2, .int .i64 b), (3, .int .i64 c), (4, .map m)]).run Tryz.prog W = .ok (.agg #[.pointer p, .int .i64 a, .int .i64 b, .int .i64 c, .map m]) W := fun p a b c m W => by kernel_rfl
theorem zd6 : ∀ (p q : Option Addr) (a : Int) (m : Option Nat) (W : World), (Instr.build 133 #[(0, .pointer p), (1, .int .i64 a), (2, .pointer q), (3, .map m)]).run Tryz.prog W = .ok (.agg #[.pointer p, .int .i64 a, .pointer q, .map m]) W := fun p q a m W => by kernel_rfl
theorem vS (w : World) (o o' : Obj) : Below w.heap.size w ((w.alloc o).alloc o') := ((Below.refl _ _).alloc (Nat.le_refl _) _).alloc (by simp) _
theorem ZK (w : World) (o o' : Obj) : ((w.alloc o).alloc o').heap[w.heap.size + 1]? = some o' := by
  have h := zi (w.alloc o) o'
  rw [show (w.alloc o).heap.size = w.heap.size + 1 by simp] at h
  exact h
theorem WE (w : World) (B : Nat) (hB : B ≤ w.heap.size) :
    Calls Tryz.prog 27 #[.int .u64 0, .int .i64 100000] w fun e w' => e = .returned (.pointer (some ⟨w.heap.size + 1, 0, none⟩)) ∧ xg w' B 0 (w.heap.size + 1) w.heap.size ⟨0, 0, 100000, fun _ => []⟩ ∧ w'.heap.size = w.heap.size + 2 ∧ Below w.heap.size w w' := by
  have hm := zdD
  have hb := zea
  go_enter Tryz.func27, Tryz.ntmps27
  go_wp2
  go_ret
  refine ⟨rfl, ⟨ZK _ _ _, ⟨0, _, (qa.made zah w).below ((Below.refl _ _).alloc (Nat.le_refl _) _), fun _ _ => rfl, fun k v h => (by cases h), fun k k' v v' _ h => (by cases h)⟩, by omega, hB⟩, by simp, vS _ _ _⟩
theorem WP (w : World) (B : Nat) (hB : B ≤ w.heap.size) :
    Calls Tryz.prog 52 #[.int .i64 1000] w fun e w' => e = .returned (.pointer (some ⟨w.heap.size + 1, 0, none⟩)) ∧ qp w' B 0 (w.heap.size + 1) w.heap.size 1000 ∧ w'.heap.size = w.heap.size + 2 ∧ Below w.heap.size w w' := by
  have hm := zdN
  have hb := zd2
  go_enter Tryz.func52, Tryz.ntmps52
  go_wp2
  go_ret
  refine ⟨rfl, ⟨ZK _ _ _, ⟨0, _, (qa.made QV w).below ((Below.refl _ _).alloc (Nat.le_refl _) _)⟩, by omega, hB⟩, by simp, vS _ _ _⟩
theorem zb6 (w : World) (B st : Nat) (hB : B ≤ w.heap.size) :
    Calls Tryz.prog 26 #[.pointer (some ⟨st, 0, none⟩), .int .i64 8, .int .i64 500, .int .i64 2000] w fun e w' => e = .returned (.pointer (some ⟨w.heap.size + 1, 0, none⟩)) ∧ jd w' B 0 (w.heap.size + 1) st w.heap.size 8 500 2000 0 (fun _ => none) ∧ w'.heap.size = w.heap.size + 2 ∧ Below w.heap.size w w' := by
  have hm := zdU
  have hb := zd5
  go_enter Tryz.func26, Tryz.ntmps26
  go_wp2
  go_ret
  refine ⟨rfl, ⟨ZK _ _ _, ⟨_, (qa.made QV w).below ((Below.refl _ _).alloc (Nat.le_refl _) _), fun _ _ => rfl, fun k x h => (by cases h)⟩, by omega, hB⟩, by simp, vS _ _ _⟩
theorem zaD (w : World) (B en : Nat) (hB : B ≤ w.heap.size) :
    Calls Tryz.prog 29 #[.pointer (some ⟨en, 0, none⟩), .int .i64 1000] w fun e w' => e = .returned (.pointer (some ⟨w.heap.size + 3, 0, none⟩)) ∧ qp w' B 0 (w.heap.size + 1) w.heap.size 1000 ∧ jf w' B 0 (w.heap.size + 3) en (w.heap.size + 1) (w.heap.size + 2) 1000 (fun _ => none) ∧ w'.heap.size = w.heap.size + 4 ∧ Below w.heap.size w w' := by
  have hm := zdO
  have hb' := zd6
  go_enter Tryz.func29, Tryz.ntmps29
  go_wp2_with (fail)
  refine (WP w B hB).mono ?_
  rintro e w1 ⟨rfl, hk, hs, hb⟩
  have HK := hQ hk
  have HS := hQ hs
  have HB := hQ hb
  clear hk hs hb
  go_wp2
  go_ret
  have hsz := HS.out
  have hsz1 := HB.out.size
  have h1 := vS w1 (.map #[] 0) (.cells #[.pointer (some ⟨en, 0, none⟩), .int .i64 1000, .pointer (some ⟨w.heap.size + 1, 0, none⟩), .map (some w1.heap.size)] 133)
  have h2 := ZK w1 (.map #[] 0) (.cells #[.pointer (some ⟨en, 0, none⟩), .int .i64 1000, .pointer (some ⟨w.heap.size + 1, 0, none⟩), .map (some w1.heap.size)] 133)
  have h3 := (qa.made QV w1).below ((Below.refl _ _).alloc (Nat.le_refl _) (.cells #[.pointer (some ⟨en, 0, none⟩), .int .i64 1000, .pointer (some ⟨w.heap.size + 1, 0, none⟩), .map (some w1.heap.size)] 133))
  have e2 : w.heap.size + 2 = w1.heap.size := hsz.symm
  have e3 : w.heap.size + 3 = w1.heap.size + 1 := by omega
  rw [e2, e3]
  exact ⟨by simp [go_sem], HK.out.below h1, ⟨h2, ⟨0, h3⟩, by omega, by omega⟩, by simp; omega, zf HB.out HB.out.size h1⟩
def vW (k : Nat) : Array Value := #[.int .i64 8] ++ (Array.replicate k (Value.int .i64 1)) ++ Array.replicate (32 - k) (Value.int .i64 0)
structure kL (w : World) (dk k : Nat) : Prop where
  blk : w.heap[dk]? = some (.cells (vW k) 128 (0, 0))
  le : k ≤ 3
theorem kL.below {w w1 : World} {dk k : Nat} (h : kL w dk k) (hb : Below w.heap.size w w1) : kL w1 dk k := ⟨zb h.blk hb, h.le⟩
theorem YD (k : Nat) (hk : k ≤ 3) (i : Nat) (hi : i < 8) : (vW k)[0]? = some (.int .i64 8) ∧ (vW k)[1 + i]? = some (.int .i64 (if i < k then 1 else 0)) := by
  obtain rfl | rfl | rfl | rfl : k = 0 ∨ k = 1 ∨ k = 2 ∨ k = 3 := by omega
  all_goals
    obtain rfl | rfl | rfl | rfl | rfl | rfl | rfl | rfl : i = 0 ∨ i = 1 ∨ i = 2 ∨ i = 3 ∨ i = 4 ∨ i = 5 ∨ i = 6 ∨ i = 7 := by omega
    all_goals exact ⟨rfl, rfl⟩
theorem Ku (w : World) (dk k : Nat) (h : kL w dk k) (c : Nat) (hc : c < 8) :
    Calls Tryz.prog 101 #[.pointer (some ⟨dk, 0, none⟩), .int .i64 (c : Int)] w fun e w' => e = .returned (.int .i64 (if c < k then 1 else 0)) ∧ Below w.heap.size w w' := by
  have hu128 := Tryz.underlying128
  have hu126 := Tryz.underlying126
  have h0 : w.cell? ⟨dk, 0, none⟩ = some (.int .i64 8) := (za h.blk 0).trans (YD k h.le 0 (by omega)).1
  have h1 : w.cell? ⟨dk, 1 + c, none⟩ = some (.int .i64 (if c < k then 1 else 0)) := (za h.blk (1 + c)).trans (YD k h.le c hc).2
  obtain ⟨v, hv⟩ : ∃ v : Int, v = if c < k then 1 else 0 := ⟨_, rfl⟩
  rw [← hv] at h1 ⊢
  clear hv h
  obtain rfl | rfl | rfl | rfl | rfl | rfl | rfl | rfl : c = 0 ∨ c = 1 ∨ c = 2 ∨ c = 3 ∨ c = 4 ∨ c = 5 ∨ c = 6 ∨ c = 7 := by omega
  all_goals
    clear hc
    go_enter Tryz.func101, Tryz.ntmps101
    go_wp2
    go_ret
    exact ⟨rfl, Below.refl _ _⟩
theorem za7 (w : World) :
    Calls Tryz.prog 28 #[.int .i64 8] w fun e w' => e = .returned (.pointer (some ⟨w.heap.size, 0, none⟩)) ∧ kL w' w.heap.size 0 ∧ w'.heap.size = w.heap.size + 1 ∧ Below w.heap.size w w' := by
  have hb : ∀ (W : World), (Instr.build 128 #[(0, .int .i64 8)]).run Tryz.prog W = .ok (.agg (vW 0)) W := fun W => by kernel_rfl
  go_enter Tryz.func28, Tryz.ntmps28
  go_wp2
  go_ret
  exact ⟨rfl, ⟨zi _ _, by omega⟩, by simp, (Below.refl _ _).alloc (Nat.le_refl _) _⟩
end Go.Proofs.YtlalbohhopmpdaaGreat.Top
namespace Go.Proofs.YtlalbohhopmpdaaGreat.Top
open Go.RowKit Go.Proofs.YtlalbohhopmpdaaGreat.PTop Go.YW.PrintWords Go.YW.PrintLast Go.YW.PrintMore Go.Proofs.YtlalbohhopmpdaaGreat.Num
open Go.Proofs.YtlalbohhopmpdaaGreat.Ring (yT yt Fr2 Fr3)
attribute [local go_sem] zk zo
structure GCs (cs : Array Value) (m gr o : Value) (dk ss n : Nat) (L : Nat → Nat → Nat) : Prop where
  size : cs.size = 79
  cfg : ∀ i, i < 13 → cs[i]? = (xR m gr o)[i]?
  dk : cs[13]? = some (.pointer (some ⟨dk, 0, none⟩))
  ss : cs[14]? = some (.pointer (some ⟨ss, 0, none⟩))
  ln : ∀ c, c < n → cs[15 + 2 * c]? = some (.pointer (some ⟨L c 0, 0, none⟩)) ∧ cs[16 + 2 * c]? = some (.pointer (some ⟨L c 3, 0, none⟩))
structure zR (w : World) (B N : Nat) (x : Ix) (g : Sg) (gb dk n : Nat) (L : Nat → Nat → Nat) (Qi Qo : Nat → List Int) : Prop where
  blk : ∃ cs m gr o, w.heap[gb]? = some (.cells cs 98 (0, 0)) ∧ GCs cs m gr o dk x.ss n L ∧ qO w m gr
  desk : kL w dk n
  slv : ym w B N x g
  fl : ∀ c, c < n → yT w (L c 0) (L c 1) (L c 2) 1024 (Qi c) false
  rg : ∀ c, c < n → yt w (L c 3) (L c 4) 1024 (Qo c)
  lo : ∀ c i, c < n → i < 5 → B ≤ L c i ∧ L c i ≠ gb ∧ L c i ≠ dk
  ap : ∀ c c' i j, c < n → c' < n → i < 5 → j < 5 → (c ≠ c' ∨ i ≠ j) → L c i ≠ L c' j
theorem qO.chT {B : Nat} {T M : List Nat} {w w1 : World} {m g : Value} (h : qO w m g) (hc : Ch T M B w w1) (h1 : 78 ∉ T) (h2 : 81 ∉ T) : qO w1 m g := by
  obtain ⟨⟨Am, cm, e1, r1⟩, Ag, cg, e2, r2⟩ := h
  exact ⟨⟨Am, cm, e1, hc.R r1 (fun q hq => by have hq2 : q ∈ [78] := hq; rw [List.mem_singleton.1 hq2]; exact h1)⟩, Ag, cg, e2, hc.R r2 (fun q hq => by have hq2 : q ∈ [81] := hq; rw [List.mem_singleton.1 hq2]; exact h2)⟩
section
variable {w w1 : World} {B N N' : Nat} {x : Ix} {g g' : Sg} {gb dk n : Nat} {L : Nat → Nat → Nat} {Qi Qo : Nat → List Int}
theorem qi {gf g1 b1 M : Nat} {q : List Int} {bad : Bool} (h : yT w gf g1 b1 M q bad) : (∃ cs f, w.heap[gf]? = some (.cells cs 184 f)) ∧ (∃ cs f, w.heap[g1]? = some (.cells cs 186 f)) ∧ ∃ cs f, w.heap[b1]? = some (.cells cs 5 f) := by
  obtain ⟨f, bs, h1, h2, _⟩ := h.r.ex
  exact ⟨⟨_, _, h.f⟩, ⟨_, _, h1⟩, ⟨_, _, h2⟩⟩
theorem jq {g1 b1 M : Nat} {q : List Int} (h : yt w g1 b1 M q) : (∃ cs f, w.heap[g1]? = some (.cells cs 186 f)) ∧ ∃ cs f, w.heap[b1]? = some (.cells cs 5 f) := by
  obtain ⟨f, bs, h1, h2, _⟩ := h.ex
  exact ⟨⟨_, _, h1⟩, ⟨_, _, h2⟩⟩
theorem yT.keep {gf g1 b1 M : Nat} {q : List Int} {bad : Bool} (h : yT w gf g1 b1 M q bad) (h0 : w1.heap[gf]? = w.heap[gf]?) (h1 : w1.heap[g1]? = w.heap[g1]?) (h2 : w1.heap[b1]? = w.heap[b1]?) : yT w1 gf g1 b1 M q bad := ⟨h0.trans h.f, h.r.keep h1 h2⟩
theorem zR.below (h : zR w B N x g gb dk n L Qi Qo) (hb : Below w.heap.size w w1) : zR w1 B N x g gb dk n L Qi Qo := by
  obtain ⟨cs, m, gr, o, h1, h2, h3⟩ := h.blk
  exact ⟨⟨cs, m, gr, o, zb h1 hb, h2, h3.below hb⟩, h.desk.below hb, h.slv.below hb, fun c hc => (h.fl c hc).below hb, fun c hc => (h.rg c hc).below hb, h.lo, h.ap⟩
theorem zR.step (h : zR w B N x g gb dk n L Qi Qo) (hs : ym w1 B N' x g') (hc : Ch TS (MS x) B w w1) : zR w1 B N' x g' gb dk n L Qi Qo := by
  obtain ⟨cs, m, gr, o, h1, h2, h3⟩ := h.blk
  have kp : ∀ {b t : Nat}, (∃ cs f, w.heap[b]? = some (.cells cs t f)) → t ∉ TS → w1.heap[b]? = w.heap[b]? := fun ⟨cs, f, e⟩ ht => (hc.cell e ht).trans e.symm
  refine ⟨⟨cs, m, gr, o, hc.cell h1 (by decide), h2, h3.ch hc⟩, ⟨hc.cell h.desk.blk (by decide), h.desk.le⟩, hs, fun c hcn => ?_, fun c hcn => ?_, h.lo, h.ap⟩
  · obtain ⟨k0, k1, k2⟩ := qi (h.fl c hcn)
    exact yT.keep (h.fl c hcn) (kp k0 (by decide)) (kp k1 (by decide)) (kp k2 (by decide))
  · obtain ⟨k1, k2⟩ := jq (h.rg c hcn)
    exact (h.rg c hcn).keep (kp k1 (by decide)) (kp k2 (by decide))
theorem Qk {a b c : Nat} (hf : Fr3 a b c w w1) (ha : B ≤ a ∧ ∃ cs f, w.heap[a]? = some (.cells cs 184 f)) (hb : B ≤ b ∧ ∃ cs f, w.heap[b]? = some (.cells cs 186 f)) (hc : B ≤ c ∧ ∃ cs f, w.heap[c]? = some (.cells cs 5 f)) : B ≤ w.heap.size → Ch [184, 186, 5] [] B w w1 := fun hB => by
  obtain ⟨ha, ca, fa, ea⟩ := ha
  obtain ⟨hb, cb, fb, eb⟩ := hb
  obtain ⟨hc, cc, fc, ec⟩ := hc
  refine ⟨hf.os, hf.tape, hf.output, hf.size, fun i hi => hf.block i (by omega) (by omega) (by omega) (by omega), fun m hm => (by cases hm), fun i hi _ ht => hf.block i hi ?_ ?_ ?_⟩
  · rintro rfl; exact ht ca 184 fa ea (by decide)
  · rintro rfl; exact ht cb 186 fb eb (by decide)
  · rintro rfl; exact ht cc 5 fc ec (by decide)
def ja (Q : Nat → List Int) (c : Nat) (q : List Int) : Nat → List Int := fun k => if k = c then q else Q k
theorem zR.flow (h : zR w B N x g gb dk n L Qi Qo) {c : Nat} (hc : c < n) {q : List Int} (hw : yT w1 (L c 0) (L c 1) (L c 2) 1024 q false) (hf : Fr3 (L c 0) (L c 1) (L c 2) w w1) : zR w1 B N x g gb dk n L (ja Qi c q) Qo := by
  obtain ⟨cs, m, gr, o, h1, h2, h3⟩ := h.blk
  obtain ⟨k0, k1, k2⟩ := qi (h.fl c hc)
  have hch := Qk hf ⟨(h.lo c 0 hc (by omega)).1, k0⟩ ⟨(h.lo c 1 hc (by omega)).1, k1⟩ ⟨(h.lo c 2 hc (by omega)).1, k2⟩ h.slv.lt
  refine ⟨⟨cs, m, gr, o, hch.cell h1 (by decide), h2, h3.chT hch (by decide) (by decide)⟩, ⟨hch.cell h.desk.blk (by decide), h.desk.le⟩, h.slv.chT hch (by decide), fun c' hc' => ?_, fun c' hc' => ?_, h.lo, h.ap⟩
  · by_cases e : c' = c
    · subst e
      rw [show ja Qi c' q c' = q from if_pos rfl]
      exact hw
    · rw [show ja Qi c q c' = Qi c' from if_neg e]
      obtain ⟨j0, j1, j2⟩ := qi (h.fl c' hc')
      obtain ⟨_, _, e0⟩ := j0; obtain ⟨_, _, e1⟩ := j1; obtain ⟨_, _, e2⟩ := j2
      exact yT.keep (h.fl c' hc') (hf.block _ (zF e0) (h.ap c' c 0 0 hc' hc (by omega) (by omega) (.inl e)) (h.ap c' c 0 1 hc' hc (by omega) (by omega) (.inl e)) (h.ap c' c 0 2 hc' hc (by omega) (by omega) (.inl e)))
        (hf.block _ (zF e1) (h.ap c' c 1 0 hc' hc (by omega) (by omega) (.inl e)) (h.ap c' c 1 1 hc' hc (by omega) (by omega) (.inl e)) (h.ap c' c 1 2 hc' hc (by omega) (by omega) (.inl e)))
        (hf.block _ (zF e2) (h.ap c' c 2 0 hc' hc (by omega) (by omega) (.inl e)) (h.ap c' c 2 1 hc' hc (by omega) (by omega) (.inl e)) (h.ap c' c 2 2 hc' hc (by omega) (by omega) (.inl e)))
  · obtain ⟨j1, j2⟩ := jq (h.rg c' hc')
    obtain ⟨_, _, e1⟩ := j1; obtain ⟨_, _, e2⟩ := j2
    exact (h.rg c' hc').keep (hf.block _ (zF e1) (h.ap c' c 3 0 hc' hc (by omega) (by omega) (.inr (by omega))) (h.ap c' c 3 1 hc' hc (by omega) (by omega) (.inr (by omega))) (h.ap c' c 3 2 hc' hc (by omega) (by omega) (.inr (by omega))))
      (hf.block _ (zF e2) (h.ap c' c 4 0 hc' hc (by omega) (by omega) (.inr (by omega))) (h.ap c' c 4 1 hc' hc (by omega) (by omega) (.inr (by omega))) (h.ap c' c 4 2 hc' hc (by omega) (by omega) (.inr (by omega))))
theorem zR.ring (h : zR w B N x g gb dk n L Qi Qo) {c : Nat} (hc : c < n) {q : List Int} (hw : yt w1 (L c 3) (L c 4) 1024 q) (hf : Fr2 (L c 3) (L c 4) w w1) : zR w1 B N x g gb dk n L Qi (ja Qo c q) := by
  obtain ⟨cs, m, gr, o, h1, h2, h3⟩ := h.blk
  obtain ⟨k1, k2⟩ := jq (h.rg c hc)
  obtain ⟨k0, _, _⟩ := qi (h.fl c hc)
  have hch := Qk (a := L c 0) (Fr3.of_fr2 hf) ⟨(h.lo c 0 hc (by omega)).1, k0⟩ ⟨(h.lo c 3 hc (by omega)).1, k1⟩ ⟨(h.lo c 4 hc (by omega)).1, k2⟩ h.slv.lt
  refine ⟨⟨cs, m, gr, o, hch.cell h1 (by decide), h2, h3.chT hch (by decide) (by decide)⟩, ⟨hch.cell h.desk.blk (by decide), h.desk.le⟩, h.slv.chT hch (by decide), fun c' hc' => ?_, fun c' hc' => ?_, h.lo, h.ap⟩
  · obtain ⟨j0, j1, j2⟩ := qi (h.fl c' hc')
    obtain ⟨_, _, e0⟩ := j0; obtain ⟨_, _, e1⟩ := j1; obtain ⟨_, _, e2⟩ := j2
    exact yT.keep (h.fl c' hc') (hf.block _ (zF e0) (h.ap c' c 0 3 hc' hc (by omega) (by omega) (.inr (by omega))) (h.ap c' c 0 4 hc' hc (by omega) (by omega) (.inr (by omega))))
      (hf.block _ (zF e1) (h.ap c' c 1 3 hc' hc (by omega) (by omega) (.inr (by omega))) (h.ap c' c 1 4 hc' hc (by omega) (by omega) (.inr (by omega))))
      (hf.block _ (zF e2) (h.ap c' c 2 3 hc' hc (by omega) (by omega) (.inr (by omega))) (h.ap c' c 2 4 hc' hc (by omega) (by omega) (.inr (by omega))))
  · by_cases e : c' = c
    · subst e
      rw [show ja Qo c' q c' = q from if_pos rfl]
      exact hw
    · rw [show ja Qo c q c' = Qo c' from if_neg e]
      obtain ⟨j1, j2⟩ := jq (h.rg c' hc')
      obtain ⟨_, _, e1⟩ := j1; obtain ⟨_, _, e2⟩ := j2
      exact (h.rg c' hc').keep (hf.block _ (zF e1) (h.ap c' c 3 3 hc' hc (by omega) (by omega) (.inl e)) (h.ap c' c 3 4 hc' hc (by omega) (by omega) (.inl e)))
        (hf.block _ (zF e2) (h.ap c' c 4 3 hc' hc (by omega) (by omega) (.inl e)) (h.ap c' c 4 4 hc' hc (by omega) (by omega) (.inl e)))
end
def TG : List Nat := [133, 125, 118, 182, 210, 184, 186, 5, 98, 128]
def TGL : List Nat := [133, 125, 118, 182, 210, 78, 208, 81, 184, 186, 5, 98, 128]
section
variable {w w0 w1 W W1 : World} {B N N' : Nat} {x : Ix} {g g' : Sg} {gb dk n : Nat} {L : Nat → Nat → Nat} {Qi Qo Qi' Qo' : Nat → List Int}
theorem zR.chT {T : List Nat} (h : zR w B N x g gb dk n L Qi Qo) (hc : Ch T [] B w w1) (hT : ∀ t, t ∈ TGL → t ∉ T) : zR w1 B N x g gb dk n L Qi Qo := by
  obtain ⟨cs, m, gr, o, h1, h2, h3⟩ := h.blk
  have kp : ∀ {b t : Nat}, (∃ cs f, w.heap[b]? = some (.cells cs t f)) → t ∈ TGL → w1.heap[b]? = w.heap[b]? := fun ⟨cs, f, e⟩ ht => (hc.cell e (hT _ ht)).trans e.symm
  refine ⟨⟨cs, m, gr, o, hc.cell h1 (hT _ (by decide)), h2, h3.chT hc (hT _ (by decide)) (hT _ (by decide))⟩, ⟨hc.cell h.desk.blk (hT _ (by decide)), h.desk.le⟩, h.slv.chT hc (fun t ht => hT t (by simp only [TL, TGL, List.mem_cons, List.not_mem_nil, or_false] at ht ⊢; rcases ht with h | h | h | h | h | h | h <;> simp [h])), fun c hcn => ?_, fun c hcn => ?_, h.lo, h.ap⟩
  · obtain ⟨k0, k1, k2⟩ := qi (h.fl c hcn)
    exact yT.keep (h.fl c hcn) (kp k0 (by decide)) (kp k1 (by decide)) (kp k2 (by decide))
  · obtain ⟨k1, k2⟩ := jq (h.rg c hcn)
    exact (h.rg c hcn).keep (kp k1 (by decide)) (kp k2 (by decide))
structure xx (B N : Nat) (x : Ix) (g : Sg) (gb dk n : Nat) (L : Nat → Nat → Nat) (Qi Qo : Nat → List Int) (w0 W : World) (b1 b2 : Nat) : Prop where
  gt : zR W B N x g gb dk n L Qi Qo
  ch : Ch TG (MS x) B w0 W
  le : B ≤ w0.heap.size
  t1 : ∃ cs t f, W.heap[b1]? = some (.cells cs t f) ∧ t ∉ TGL
  t2 : ∃ cs t f, W.heap[b2]? = some (.cells cs t f) ∧ t ∉ TGL
  n1 : w0.heap.size ≤ b1
  n2 : w0.heap.size ≤ b2
theorem JS {W : World} {b b' j : Nat} {v : Value} (h : ∃ cs t f, W.heap[b]? = some (.cells cs t f) ∧ t ∉ TGL) : ∃ cs t f, (W.setCell ⟨b', j, none⟩ v).heap[b]? = some (.cells cs t f) ∧ t ∉ TGL := by
  obtain ⟨cs, t, f, h1, h2⟩ := h
  by_cases e : b = b'
  · subst e
    have hlt := zF h1
    have hx := (Array.getElem?_eq_some_iff.1 h1).2
    exact ⟨cs.setIfInBounds j v, t, f, by simp [World.setCell, hlt, Array.getElem_modify, hx], h2⟩
  · exact ⟨cs, t, f, (Below.heap_setCell W ⟨b', j, none⟩ v b e).trans h1, h2⟩
theorem xx.set {b1 b2 b j : Nat} {v : Value} (h : xx B N x g gb dk n L Qi Qo w0 W b1 b2) (hb : b = b1 ∨ b = b2) : xx B N x g gb dk n L Qi Qo w0 (W.setCell ⟨b, j, none⟩ v) b1 b2 := by
  have ht : ∃ cs t f, W.heap[b]? = some (.cells cs t f) ∧ t ∉ TGL := hb.elim (fun e => e ▸ h.t1) (fun e => e ▸ h.t2)
  have hn : w0.heap.size ≤ b := hb.elim (fun e => e ▸ h.n1) (fun e => e ▸ h.n2)
  obtain ⟨cs, t, f, h1, h2⟩ := ht
  have hB : B ≤ b := Nat.le_trans h.le hn
  refine ⟨h.gt.chT (Ch.set (T := [t]) (M := []) h1 (by simp) hB (fun m hm => by cases hm) v) (fun q hq hm => by
    rw [List.mem_singleton] at hm
    subst hm
    exact h2 hq), ⟨h.ch.os, h.ch.tape, h.ch.output, ?_, fun i hi => ?_, h.ch.isMap, fun i hi hm ht => ?_⟩, h.le, JS h.t1, JS h.t2, h.n1, h.n2⟩
  · have := h.ch.size
    simpa [World.setCell] using this
  · exact (Below.heap_setCell W ⟨b, j, none⟩ v i (by show i ≠ b; omega)).trans (h.ch.low i hi)
  · exact (Below.heap_setCell W ⟨b, j, none⟩ v i (by show i ≠ b; omega)).trans (h.ch.block i hi hm ht)
theorem zaS {t : Nat} (h : t ∉ TGL) : t ∉ TG := fun ht => h (by simp only [TG, TGL, List.mem_cons, List.not_mem_nil, or_false] at ht ⊢; rcases ht with h | h | h | h | h | h | h | h | h | h <;> simp [h])
theorem xx.step {b1 b2 : Nat} (h : xx B N x g gb dk n L Qi Qo w0 W b1 b2) (hs : zR W1 B N' x g' gb dk n L Qi' Qo') (hc : Ch TG (MS x) B W W1) : xx B N' x g' gb dk n L Qi' Qo' w0 W1 b1 b2 := by
  obtain ⟨c1, t1, f1, e1, n1⟩ := h.t1
  obtain ⟨c2, t2, f2, e2, n2⟩ := h.t2
  exact ⟨hs, h.ch.trans hc, h.le, ⟨c1, t1, f1, hc.cell e1 (zaS n1), n1⟩, ⟨c2, t2, f2, hc.cell e2 (zaS n2), n2⟩, h.n1, h.n2⟩
theorem zR.chb (h : zR w B N x g gb dk n L Qi Qo) (hb : Below w.heap.size w w1) : Ch TG (MS x) B w w1 := Ch.of_below hb h.slv.lt h.slv.isMap
theorem xx.below {b1 b2 : Nat} (h : xx B N x g gb dk n L Qi Qo w0 W b1 b2) (hb : Below W.heap.size W W1) : xx B N x g gb dk n L Qi Qo w0 W1 b1 b2 := h.step (h.gt.below hb) (h.gt.chb hb)
theorem xx.mk' {b1 b2 t1 t2 : Nat} {c1 c2 : Array Value} {f1 f2 : Nat × Nat} (h0 : zR w0 B N x g gb dk n L Qi Qo) (hb : Below w0.heap.size w0 W) (e1 : W.heap[b1]? = some (.cells c1 t1 f1)) (e2 : W.heap[b2]? = some (.cells c2 t2 f2)) (n1 : w0.heap.size ≤ b1) (n2 : w0.heap.size ≤ b2) (h1 : t1 ∉ TGL) (h2 : t2 ∉ TGL) : xx B N x g gb dk n L Qi Qo w0 W b1 b2 :=
  ⟨h0.below hb, h0.chb hb, h0.slv.lt, ⟨c1, t1, f1, e1, h1⟩, ⟨c2, t2, f2, e2, h2⟩, n1, n2⟩
theorem zR.flowC (h : zR w B N x g gb dk n L Qi Qo) {c : Nat} (hc : c < n) (hf : Fr3 (L c 0) (L c 1) (L c 2) w w1) : Ch TG (MS x) B w w1 := by
  obtain ⟨k0, k1, k2⟩ := qi (h.fl c hc)
  exact (Qk hf ⟨(h.lo c 0 hc (by omega)).1, k0⟩ ⟨(h.lo c 1 hc (by omega)).1, k1⟩ ⟨(h.lo c 2 hc (by omega)).1, k2⟩ h.slv.lt).mono (by decide) (fun m hm => by cases hm) h.slv.isMap
theorem zR.ringC (h : zR w B N x g gb dk n L Qi Qo) {c : Nat} (hc : c < n) (hf : Fr2 (L c 3) (L c 4) w w1) : Ch TG (MS x) B w w1 := by
  obtain ⟨k1, k2⟩ := jq (h.rg c hc)
  obtain ⟨k0, _, _⟩ := qi (h.fl c hc)
  exact (Qk (a := L c 0) (Fr3.of_fr2 hf) ⟨(h.lo c 0 hc (by omega)).1, k0⟩ ⟨(h.lo c 3 hc (by omega)).1, k1⟩ ⟨(h.lo c 4 hc (by omega)).1, k2⟩ h.slv.lt).mono (by decide) (fun m hm => by cases hm) h.slv.isMap
theorem zaO (h : Ch TS (MS x) B w w1) : Ch TG (MS x) B w w1 := h.mono (by decide) (fun _ hm => hm) h.isMap
theorem zR.cells (h : zR w B N x g gb dk n L Qi Qo) : w.cell? ⟨gb, 13, none⟩ = some (.pointer (some ⟨dk, 0, none⟩)) ∧ w.cell? ⟨gb, 14, none⟩ = some (.pointer (some ⟨x.ss, 0, none⟩)) ∧ ∀ c, c < n → w.cell? ⟨gb, 15 + 2 * c, none⟩ = some (.pointer (some ⟨L c 0, 0, none⟩)) ∧ w.cell? ⟨gb, 16 + 2 * c, none⟩ = some (.pointer (some ⟨L c 3, 0, none⟩)) := by
  obtain ⟨cs, m, gr, o, h1, h2, h3⟩ := h.blk
  exact ⟨(za h1 13).trans h2.dk, (za h1 14).trans h2.ss, fun c hc => ⟨(za h1 _).trans (h2.ln c hc).1, (za h1 _).trans (h2.ln c hc).2⟩⟩
end
theorem jS (w : World) (B N : Nat) (x : Ix) (g : Sg) (gb dk n : Nat) (L : Nat → Nat → Nat) (Qi Qo : Nat → List Int) (h : zR w B N x g gb dk n L Qi Qo) (c : Nat) (hc : c < n) :
    Calls Tryz.prog 58 #[.pointer (some ⟨gb, 0, none⟩), .int .i64 (c : Int)] w fun e w' => e = .returned (.int .i64 1) ∧ Below w.heap.size w w' := by
  have hu98 := Tryz.underlying98
  obtain ⟨c13, _, _⟩ := h.cells
  have hD := Ku w dk n h.desk c (by have := h.desk.le; omega)
  rw [if_pos hc] at hD
  clear h hc
  go_enter Tryz.func58, Tryz.ntmps58
  go_wp2_with (fail)
  refine hD.mono ?_
  rintro e w2 ⟨rfl, hb⟩
  have HB := hQ hb
  clear hb
  go_wp2
  go_ret
  exact ⟨rfl, HB.out⟩
theorem ZE (w : World) (B N : Nat) (x : Ix) (g : Sg) (gb dk n : Nat) (L : Nat → Nat → Nat) (Qi Qo : Nat → List Int) (h : zR w B N x g gb dk n L Qi Qo) :
    Calls Tryz.prog 20 #[.pointer (some ⟨gb, 0, none⟩)] w fun e w' => e = .returned (.pointer (some ⟨x.st, 0, none⟩)) ∧ Below w.heap.size w w' := by
  have hu98 := Tryz.underlying98
  obtain ⟨_, c14, _⟩ := h.cells
  have H := hQ h
  clear h
  go_enter Tryz.func20, Tryz.ntmps20
  go_wp2_with (fail)
  refine (Jc w B N x.ss x.en x.bk x.ms x.ticks g.ses H.out.slv.ss).mono ?_
  rintro e w2 ⟨rfl, hb⟩
  have HB := hQ hb
  have H2 := hQ (H.out.below hb)
  clear hb
  go_wp2_with (fail)
  refine (Yf w2 B N x.en x.st x.me x.most x.spans x.writes g.nv g.vs H2.out.slv.en).mono ?_
  rintro e w3 ⟨rfl, hb⟩
  have HC := hQ (zf HB.out HB.out.size hb)
  clear hb
  go_wp2
  go_ret
  exact ⟨rfl, HC.out⟩
theorem XL (w : World) (B N : Nat) (x : Ix) (g : Sg) (gb dk n : Nat) (L : Nat → Nat → Nat) (Qi Qo : Nat → List Int) (h : zR w B N x g gb dk n L Qi Qo) :
    Calls Tryz.prog 13 #[.pointer (some ⟨gb, 0, none⟩)] w fun e w' => e = .returned (.int .u64 g.s.last) ∧ Below w.heap.size w w' := by
  have H := hQ h
  clear h
  go_enter Tryz.func13, Tryz.ntmps13
  go_wp2_with (fail)
  refine (ZE w B N x g gb dk n L Qi Qo H.out).mono ?_
  rintro e w2 ⟨rfl, hb⟩
  have HB := hQ hb
  have H2 := hQ (H.out.below hb)
  clear hb
  go_wp2_with (fail)
  refine (kX w2 B N x.st x.mst g.s H2.out.slv.st).mono ?_
  rintro e w3 ⟨rfl, hb⟩
  have HC := hQ (zf HB.out HB.out.size hb)
  clear hb
  go_wp2
  go_ret
  exact ⟨rfl, HC.out⟩
open Go.Proofs.YtlalbohhopmpdaaGreat.Ring (yT yt Fr2 Fr3 XX vP)
theorem xx.both {B N : Nat} {x : Ix} {g : Sg} {gb dk n : Nat} {L : Nat → Nat → Nat} {Qi Qo : Nat → List Int} {w0 W : World} {b1 b2 : Nat} (h : xx B N x g gb dk n L Qi Qo w0 W b1 b2) : zR W B N x g gb dk n L Qi Qo ∧ Ch TG (MS x) B w0 W := ⟨h.gt, h.ch⟩
theorem kV {w : World} {g t : Nat} {v0 v1 v2 : Value} (h : w.heap[g]? = some (.cells #[v0, v1, v2] t (0, 0))) : w.cell? ⟨g, 0, none⟩ = some v0 ∧ w.cell? ⟨g, 1, none⟩ = some v1 ∧ w.cell? ⟨g, 2, none⟩ = some v2 := ⟨za h 0, za h 1, za h 2⟩
theorem Vl (w : World) (B N : Nat) (x : Ix) (g : Sg) (gb dk n : Nat) (L : Nat → Nat → Nat) (Qi Qo : Nat → List Int) (h : zR w B N x g gb dk n L Qi Qo) (c : Nat) (hc : c < n) (A0 : Option Addr) (k c0 : Nat) (l : List Int) (hk : k = l.length) (hr : Kd.C (Kd.int .u8) w A0 k l) (hc0 : k ≤ c0) (hne : 0 < k → ∀ a, A0 = some a → a.block ≠ L c 2) (hroom : (Qi c).length + k ≤ 1024) :
    Calls Tryz.prog 32 #[.pointer (some ⟨gb, 0, none⟩), .int .i64 (c : Int), .slice A0 k c0] w fun e w' => e = .returned (.agg #[.bool true, .int .i64 (k : Int), .slice none 0 0]) ∧ zR w' B N x g gb dk n L (ja Qi c (Qi c ++ l)) Qo ∧ Ch TG (MS x) B w w' := by
  have hu98 := Tryz.underlying98
  have hu96 := Tryz.underlying96
  have hu95 := Tryz.underlying95
  have hu61 := Tryz.underlying61
  have B1 := hQ (show Below w.heap.size w (w.alloc (.cells #[.bool false, .int .i64 0, .slice none 0 0] 61)) from (Below.refl _ _).alloc (Nat.le_refl _) _)
  have X1 := hQ (zi w (.cells #[.bool false, .int .i64 0, .slice none 0 0] 61))
  have H1 := hQ (h.below B1.out)
  have L1 := hQ (xx.mk' h B1.out X1.out X1.out (by omega) (by omega) (by decide) (by decide))
  have HS := fun (W : World) (hW : zR W B N x g gb dk n L Qi Qo) => jS W B N x g gb dk n L Qi Qo hW c hc
  have HF := fun (W : World) (hW : zR W B N x g gb dk n L Qi Qo) (hR : Kd.C (Kd.int .u8) W A0 k l) => XX W (L c 0) (L c 1) (L c 2) 1024 (Qi c) false (hW.fl c hc) A0 k c0 l hk hR hc0 hne k (by simp; omega)
  have ht : l.take k = l := by rw [hk, List.take_length]
  rw [ht] at HF
  have C1 := hQ (Kd.zx hr B1.out)
  have hn3 := h.desk.le
  have HC := hQ hc
  have hcells := fun (W : World) (hW : zR W B N x g gb dk n L Qi Qo) => (hW.cells.2.2 c hc).1
  have hfl := fun (W W' : World) (hW : zR W B N x g gb dk n L Qi Qo) (q : List Int) (hw : yT W' (L c 0) (L c 1) (L c 2) 1024 q false) (hf : Fr3 (L c 0) (L c 1) (L c 2) W W') => And.intro (hW.flow hc hw hf) (hW.flowC hc hf)
  clear h hr hk hne hroom ht
  obtain rfl | rfl | rfl : c = 0 ∨ c = 1 ∨ c = 2 := by omega
  all_goals
    clear hc hn3
    go_enter Tryz.func32, Tryz.ntmps32
    go_wp2_with (fail)
    refine (HS _ H1.out).mono ?_
    rintro e w2 ⟨rfl, hb⟩
    have L2 := hQ (L1.out.below hb)
    have X2 := hQ (zb X1.out hb)
    have C2 := hQ (Kd.zx C1.out hb)
    clear hb
    have p0 := hcells _ L2.out.gt
    simp only [Nat.mul_zero, Nat.add_zero, Nat.mul_one, Nat.reduceMul, Nat.reduceAdd] at p0
    go_wp2_with (fail)
    refine (HF _ L2.out.gt C2.out).mono ?_
    rintro e w3 ⟨rfl, hw, hf⟩
    obtain ⟨hg3, hc3⟩ := hfl _ _ L2.out.gt _ hw (Fr3.of_fr2 hf)
    have L3 := hQ (L2.out.step hg3 hc3)
    have X3 := hQ (hc3.cell X2.out (by decide))
    clear hw hf hg3 hc3 p0
    obtain ⟨x0, x1, x2⟩ := kV X3.out
    have fx : ∀ i, w3.frozen? ⟨w.heap.size, i, none⟩ = false := fun i => zh X3.out i
    go_wp2
    refine bodyPost_ret (v := .agg #[.bool true, .int .i64 (k : Int), .slice none 0 0]) ?_ rfl ⟨rfl, ?_⟩
    · simp [results, Tryz.results32, go_sem, hu61, x0, x1, x2]
    · refine xx.both (b1 := w.heap.size) (b2 := w.heap.size) ?_
      repeat (with_reducible first | exact L3.out | (refine xx.set ?_ (Or.inl rfl)))
theorem KU (w : World) (B N : Nat) (x : Ix) (g : Sg) (gb dk n : Nat) (L : Nat → Nat → Nat) (Qi Qo : Nat → List Int) (h : zR w B N x g gb dk n L Qi Qo) (c : Nat) (hc : c < n) (k : Nat) (hk : k = (Qo c).length) :
    Calls Tryz.prog 34 #[.pointer (some ⟨gb, 0, none⟩), .int .i64 (c : Int), .int .i64 65536] w fun e w' => ∃ A c0, e = .returned (.agg #[.bool true, .int .i64 (k : Int), .slice A k c0]) ∧ k ≤ c0 ∧ Kd.F (Kd.int .u8) w' (fun k => w.heap.size ≤ k) A k (Qo c) ∧ zR w' B N x g gb dk n L Qi (ja Qo c []) ∧ Ch TG (MS x) B w w' := by
  have hu98 := Tryz.underlying98
  have hu96 := Tryz.underlying96
  have hu95 := Tryz.underlying95
  have hu61 := Tryz.underlying61
  have B1 := hQ (show Below w.heap.size w (w.alloc (.cells #[.bool false, .int .i64 0, .slice none 0 0] 61)) from (Below.refl _ _).alloc (Nat.le_refl _) _)
  have X1 := hQ (zi w (.cells #[.bool false, .int .i64 0, .slice none 0 0] 61))
  have H1 := hQ (h.below B1.out)
  have L1 := hQ (xx.mk' h B1.out X1.out X1.out (by omega) (by omega) (by decide) (by decide))
  have hle := (h.rg c hc).le
  have ht : (Qo c).take (65536 : Int).toNat = Qo c := List.take_of_length_le (by omega)
  have hd : (Qo c).drop (65536 : Int).toNat = [] := List.drop_eq_nil_of_le (by omega)
  have HS := fun (W : World) (hW : zR W B N x g gb dk n L Qi Qo) => jS W B N x g gb dk n L Qi Qo hW c hc
  have HF := fun (W : World) (hW : zR W B N x g gb dk n L Qi Qo) => vP W (L c 3) (L c 4) 1024 (Qo c) (hW.rg c hc) 65536 k (by rw [ht]; exact hk)
  rw [ht, hd] at HF
  have hn3 := h.desk.le
  have hcells := fun (W : World) (hW : zR W B N x g gb dk n L Qi Qo) => (hW.cells.2.2 c hc).2
  have hfl := fun (W W' : World) (hW : zR W B N x g gb dk n L Qi Qo) (q : List Int) (hw : yt W' (L c 3) (L c 4) 1024 q) (hf : Fr2 (L c 3) (L c 4) W W') => And.intro (hW.ring hc hw hf) (hW.ringC hc hf)
  clear h hk ht hd hle
  obtain rfl | rfl | rfl : c = 0 ∨ c = 1 ∨ c = 2 := by omega
  all_goals
    clear hc hn3
    go_enter Tryz.func34, Tryz.ntmps34
    go_wp2_with (fail)
    refine (HS _ H1.out).mono ?_
    rintro e w2 ⟨rfl, hb⟩
    have L2 := hQ (L1.out.below hb)
    have X2 := hQ (zb X1.out hb)
    clear hb
    have p0 := hcells _ L2.out.gt
    simp only [Nat.mul_zero, Nat.add_zero, Nat.mul_one, Nat.reduceMul, Nat.reduceAdd] at p0
    go_wp2_with (fail)
    refine (HF _ L2.out.gt).mono ?_
    rintro e w3 ⟨A3, c3, rfl, hR, hw, hf⟩
    obtain ⟨hg3, hc3⟩ := hfl _ _ L2.out.gt _ hw hf
    have L3 := hQ (L2.out.step hg3 hc3)
    have X3 := hQ (hc3.cell X2.out (by decide))
    have F3 := hQ (Kd.qU (Kd.R_F (Kd.xZ hR)) (ok' := fun k => w2.heap.size ≤ k) (fun k hk => hk.2.1))
    have C3 := hQ (Kd.zB hR).2.1
    have S2 := hQ (zF X2.out)
    clear hw hf hg3 hc3 p0 hR
    obtain ⟨x0, x1, x2⟩ := kV X3.out
    have fx : ∀ i, w3.frozen? ⟨w.heap.size, i, none⟩ = false := fun i => zh X3.out i
    go_wp2
    refine bodyPost_ret (v := .agg #[.bool true, .int .i64 (k : Int), .slice A3 k c3]) ?_ rfl ⟨A3, c3, rfl, C3.out, ?_, ?_⟩
    · simp [results, Tryz.results34, go_sem, hu61, x0, x1, x2]
    · have s2 := S2.out
      refine Kd.qU (ok := fun k => w2.heap.size ≤ k) ?_ (fun k hk => by omega)
      repeat (with_reducible first | exact F3.out | (refine kY ?_ s2))
    · refine xx.both (b1 := w.heap.size) (b2 := w.heap.size) ?_
      repeat (with_reducible first | exact L3.out | (refine xx.set ?_ (Or.inl rfl)))
end Go.Proofs.YtlalbohhopmpdaaGreat.Top
namespace Go.Proofs.YtlalbohhopmpdaaGreat.PTop
open Go.RowKit Go.YW.PrintWords Go.YW.PrintLast Go.YW.PrintMore
attribute [local go_sem] yN yO xu xw yP yR xm xq zk zo   -- for this text's walks alone
def yB.f (l0 : List Int) : Option (List Int) := if l0.length < 140737488355328 then some l0 else none
theorem yB.calls (A0 : Option Addr) (c0 : Nat) (l0 : List Int) (r : List Int) (w : World) (hr0 : Kd.C (Kd.int .u8) w A0 l0.length l0) (hc0 : l0.length ≤ c0) (h : yB.f l0 = some r) :
  Calls Tryz.prog 159 #[.slice A0 l0.length c0] w fun e w' => ∃ v0_ : Value, e = .returned (v0_) ∧ Kd.R (Kd.int .u8) 5 w' w.heap.size (fun _ => True) v0_ r ∧ Below w.heap.size w w' := by
 unfold yB.f at h
 split at h
 ·
  rename_i hlt
  obtain rfl := Option.some.inj h
  clear h
  cases A0 with
  | none =>
   have hl : l0 = [] := by
    rcases Nat.eq_zero_or_pos l0.length with h0 | h0
    ·
     exact List.eq_nil_of_length_eq_zero h0
    ·
     obtain ⟨ad, e, _⟩ := hr0.2.2 h0
     cases e
   subst hl
   have hnil := @Lib.run_eql_slice_nil Tryz.prog
   go_enter Tryz.func159, Tryz.ntmps159
   go_wp2
   go_ret
   exact ⟨_, rfl, Kd.ql _ _ _ _ _, Below.refl _ _⟩
  | some a0 =>
   have hnil := @Lib.run_eql_slice_nil Tryz.prog
   go_enter Tryz.func159, Tryz.ntmps159
   have HR := ze.mk hr0
   have HL := ze.mk hlt
   clear hr0 hlt
   go_wp2_with (first | ((with_reducible refine zN (N := 5) rfl ?_); refine Kd.vw (Kd.int .u8) (w0 := w) w.heap.size 5 ?hg (N := 5) ?hd (xs := ([] : List Int)) (inner := []) (ok := fun _ => True) (okp := fun _ => True) ?hr (yJ.none _ _) (fun _ h => h) trivial (Below.refl _ _) (Nat.le_refl _) (by simp) ?_; (case hd => rfl); (case hg => rfl); (case hr => first | (go_simp; done) | (go_simp; rfl)); intro v1 w1 ho hb hg_ _; have HO := ze.mk ho; have HB := ze.mk hb; clear ho hb hg_) | ((with_reducible refine yj (b := .append) (xs := #[.tmp 5, .tmp 6]) (ts := #[59, 59]) rfl ?_); refine Kd.yD (Kd.int .u8) (w0 := w) w.heap.size rfl (.tmp 5) (.tmp 6) 59 5 (.int .u8 0) 1 rfl Tryz.underlying59 info5 rfl (by decide) (by omega) _ ([] : List Int) l0 _ _ _ (fun _ => True) (fun _ => False) rfl rfl HO.out (Kd.zx HR.out HB.out) (fun _ _ h => h) (fun _ h => h.elim) (fun _ _ => trivial) HB.out HB.out.size ?aL ?_; (case aL => have := HL.out; simp; omega); intro v2 w2 ho hb hg_ _; have HO2 := ze.mk ho; have HB2 := ze.mk hb; clear ho hb hg_))
   go_ret
   exact ⟨_, rfl, by have := HO2.out; simpa using this, HB2.out⟩
 ·
  cases h
end Go.Proofs.YtlalbohhopmpdaaGreat.PTop
