-- written by a program of this session (wip/pp) over the kit's print.py; Lean checks it
import Derived.Test.YtmbkbpaoiilicaaPGroupAx0
import Derived.RegionTactic
import Derived.ChangeAlike
import Derived.Outline
import Derived.Lib.Hide
import Derived.WalkSpells
import Derived.Maps.OwnSet
import Derived.Maps.OwnIn
import Derived.Maps.Ext
import Derived.DeepKeys4
import Derived.MapViews
namespace Go.Proofs.Ytmbkbpaoiilicaa.PGroupA
open Go.RowKit Go.Proofs.YtmbkbpaoiilicaaW.PrintWords Go.Proofs.YtmbkbpaoiilicaaW.PrintLast Go.Proofs.YtmbkbpaoiilicaaW.PrintMore
attribute [local go_sem] max2_int min2_int max_two min_two max_three min_three max_four min_four plus_setCell_drewN plus_cell_same   -- for this text's walks alone
set_option linter.unusedVariables false
set_option linter.unusedSimpArgs false

/-! ### group_At: function 28 -/
-- IMPORT Derived.RegionTactic
-- IMPORT Derived.ChangeAlike
-- IMPORT Derived.Outline
-- IMPORT Derived.Lib.Hide
-- IMPORT Derived.WalkSpells
-- IMPORT Derived.Maps.OwnSet
-- IMPORT Derived.Maps.OwnIn
-- IMPORT Derived.Maps.Ext
-- IMPORT Derived.DeepKeys4
-- IMPORT Derived.MapViews
def atLook (l : List S30) (t a : Int) : Option S30 := l.reverse.find? (fun g => g.f0 == t && g.f1 == a)
def inI (x : Int) : Bool := (Lit.int .i64 x).wf
def atFour (l0 : List S30) (t a : Int) : Int × Int × Int × Bool := match atLook l0 t (bits .andNot .i64 a 3) with
 | some g => if g.f2 = 4 then (g.f0, g.f1, g.f2, true) else (0, 0, 0, false)
 | none => (0, 0, 0, false)
def atTwo (l0 : List S30) (t a : Int) : Int × Int × Int × Bool := match atLook l0 t (bits .andNot .i64 a 1) with
 | some g => if g.f2 = 2 then (g.f0, g.f1, g.f2, true) else atFour l0 t a
 | none => atFour l0 t a
def group_At.f (l0 : List S30) (a1_0 a1_1 : Int) : Option (Int × Int × Int × Bool) := if ((l0.all fun g => inI g.f0 && inI g.f1) && inI a1_0 && inI (bits .andNot .i64 a1_1 1) && inI (bits .andNot .i64 a1_1 3)) = true then some (atTwo l0 a1_0 a1_1) else none
theorem at_laid : laidOutB Try.prog = true := by kernel_rfl
theorem at_row : (50 : TypeId) < Try.prog.types.size := of_decide_eq_true (by kernel_rfl)
theorem at_wide : (match Try.prog.underlying 50 with | some (.array _ _) | some (.struct _) => true | _ => false) = true := by rw [Try.underlying50]
theorem at_law : Go.Maps.Keyed Try.prog 50 := Go.Maps.Keyed.of_law (deep_law_laid at_laid (m := 2) (by omega) at_row (by kernel_rfl) at_wide)
def kl (t a : Int) : Lit := .string (keyBytes [.int .i64 t, .int .i64 a])
theorem at_keyT : Try.prog.keyType 50 = true := by kernel_rfl
theorem key_gen (P : Program) (k : TypeId) (f0 f1 : Field) (hu : P.underlying k = some (.struct #[f0, f1])) (n0 : (f0.name != "_") = true) (n1 : (f1.name != "_") = true) (t0 : P.underlying f0.type = some (.int .i64)) (t1 : P.underlying f1.type = some (.int .i64)) (o0 : f0.offset = 0) (o1 : f1.offset = 1) (c0 : P.cellsOf f0.type = 1) (c1 : P.cellsOf f1.type = 1) (hk : P.keyType k = true) (hc : P.cellsOf k = 2) (hrow : 0 < P.types.size) (t a : Int) (ht : (Lit.int .i64 t).wf = true) (ha : (Lit.int .i64 a).wf = true) : keyOf P k (.agg #[.int .i64 t, .int .i64 a]) = some (.string (keyBytes [.int .i64 t, .int .i64 a])) := by
 obtain ⟨n, hn⟩ : ∃ n, P.types.size = n + 1 := ⟨P.types.size - 1, by omega⟩
 simp [keyOf, hu, hk, Value.formed, hn, Program.keyLits, Value.cells, hc, n0, n1, t0, t1, o0, o1, c0, c1, ht, ha]
theorem key50 (t a : Int) (ht : inI t = true) (ha : inI a = true) : keyOf Try.prog 50 (.agg #[.int .i64 t, .int .i64 a]) = some (kl t a) :=
 key_gen Try.prog 50 _ _ Try.underlying50 rfl rfl Try.underlying3 Try.underlying3 rfl rfl (by kernel_rfl) (by kernel_rfl) at_keyT (by kernel_rfl) (Nat.lt_of_le_of_lt (Nat.zero_le _) at_row) t a ht ha
theorem kl_inj {t a t' a' : Int} (ht : inI t = true) (ha : inI a = true) (ht' : inI t' = true) (ha' : inI a' = true) (h : kl t a = kl t' a') : t = t' ∧ a = a' := by
 have := at_law.inj (key50 t a ht ha) (h ▸ key50 t' a' ht' ha')
 simpa using this
def gE {H : Type} (g : S30) : DataW H := .agg [.lit (.int .i64 g.f0), .lit (.int .i64 g.f1), .lit (.int .i64 g.f2)]
def grR {H : Type} : Value → Option (DataW H × List MemPlace)
 | .agg cs => (match cs.toList with
  | [.int .i64 a, .int .i64 b, .int .i64 c] => some (.agg [.lit (.int .i64 a), .lit (.int .i64 b), .lit (.int .i64 c)], [])
  | _ => none)
 | _ => none
theorem grR_mk {H : Type} (g : S30) : grR (H := H) (.agg #[.int .i64 g.f0, .int .i64 g.f1, .int .i64 g.f2]) = some (gE g, []) := rfl
theorem grR_inv {H : Type} {v : Value} {g : S30} {ps : List MemPlace} (h : grR (H := H) v = some (gE g, ps)) : v = .agg #[.int .i64 g.f0, .int .i64 g.f1, .int .i64 g.f2] := by
 unfold grR at h
 split at h
 ·
  rename_i cs
  split at h
  ·
   rename_i a b c hc
   simp only [Option.some.injEq, Prod.mk.injEq, gE, DataW.agg.injEq, List.cons.injEq, DataW.lit.injEq, Lit.int.injEq, true_and, and_true] at h
   obtain ⟨⟨rfl, rfl, rfl⟩, _⟩ := h
   rw [show cs = cs.toList.toArray by simp, hc]
  ·
   cases h
 ·
  cases h
def RelAt {H : Type} (D : DataW H) (l : List S30) : Prop := Go.Maps.IsMap D ∧ ∀ t a, inI t = true → inI a = true → (atLook l t a = none → Go.Maps.has D (kl t a) = false) ∧ (∀ g, atLook l t a = some g → Go.Maps.has D (kl t a) = true ∧ ∀ z, D.atKey (kl t a) z = gE g)
theorem rel_nil {H : Type} : RelAt (.map [] : DataW H) [] := ⟨Go.Maps.isMap_empty, fun t a _ _ => ⟨fun _ => rfl, fun g h => by simp [atLook] at h⟩⟩
theorem atLook_snoc (l : List S30) (g : S30) (t a : Int) : atLook (l ++ [g]) t a = if g.f0 = t ∧ g.f1 = a then some g else atLook l t a := by
 unfold atLook
 rw [List.reverse_append, List.reverse_singleton, List.singleton_append, List.find?_cons]
 by_cases h : g.f0 = t ∧ g.f1 = a
 ·
  rw [if_pos h, show (g.f0 == t && g.f1 == a) = true by simp [h.1, h.2]]
 ·
  rw [if_neg h, show (g.f0 == t && g.f1 == a) = false by simpa using h]
theorem rel_put {H : Type} {D : DataW H} {l : List S30} (h : RelAt D l) (g : S30) (h0 : inI g.f0 = true) (h1 : inI g.f1 = true) : RelAt (D.put (kl g.f0 g.f1) (gE g)) (l ++ [g]) := by
 have hk := at_law.key (key50 _ _ h0 h1)
 refine ⟨h.1.put _ _, fun t a ht ha => ?_⟩
 rw [atLook_snoc]
 by_cases hc : g.f0 = t ∧ g.f1 = a
 ·
  rw [if_pos hc]
  have hc0 := hc.1
  have hc1 := hc.2
  subst hc0
  subst hc1
  refine ⟨fun h => (by cases h), fun g' hg => ?_⟩
  obtain rfl := Option.some.inj hg
  exact ⟨Go.Maps.has_put_same h.1 hk _, fun z => Go.Maps.atKey_put_same h.1 hk _ _⟩
 ·
  rw [if_neg hc]
  have hne : kl t a ≠ kl g.f0 g.f1 := fun e => hc (by have := kl_inj ht ha h0 h1 e; exact ⟨this.1.symm, this.2.symm⟩)
  have := h.2 t a ht ha
  exact ⟨fun h' => by rw [Go.Maps.has_put_other hne]; exact this.1 h', fun g' hg => ⟨by rw [Go.Maps.has_put_other hne]; exact (this.2 g' hg).1, fun z => by rw [Go.Maps.atKey_put_other hne]; exact (this.2 g' hg).2 z⟩⟩
theorem at_new (W : World) (o : Obj) (g : Nat) (h : g = W.heap.size) : (W.alloc o).heap[g]? = some o := by subst h; exact blk_new W o
theorem res3 {w : World} {g t : Nat} {x y z a b c : Value} (h : w.heap[g]? = some (.cells #[x, y, z] t (0, 0))) : (((w.setCell ⟨g, 0, none⟩ a).setCell ⟨g, 1, none⟩ b).setCell ⟨g, 2, none⟩ c).heap[g]? = some (.cells #[a, b, c] t (0, 0)) := blk_put (blk_put (blk_put h 0 a rfl) 1 b rfl) 2 c rfl
theorem at_zero (w : World) : (zeroValue 30).run Try.prog w = .ok (.agg #[.int .i64 0, .int .i64 0, .int .i64 0]) w := by kernel_rfl
theorem blk_lt {w : World} {g : Nat} {o : Obj} (h : w.heap[g]? = some o) : g < w.heap.size := (Array.getElem?_eq_some_iff.1 h).1
theorem look_of {H : Type} {D : DataW H} {l : List S30} (h : RelAt D l) (t a : Int) (ht : inI t = true) (ha : inI a = true) : ∃ b g, Go.Maps.has D (kl t a) = b ∧ D.atKey (kl t a) (gE z30) = gE g ∧ (if b = true then atLook l t a = some g else atLook l t a = none) := by
 obtain ⟨h1, h2⟩ := h.2 t a ht ha
 cases e : atLook l t a with
 | none => exact ⟨false, z30, h1 e, Go.Maps.atKey_of_not_has (h1 e) _, by simp⟩
 | some g => exact ⟨true, g, (h2 g e).1, (h2 g e).2 _, by simp⟩
set_option maxHeartbeats 8000000 in
theorem group_At.calls (A0 : Option Addr) (c0 : Nat) (l0 : List S30) (a1_0 a1_1 : Int) (r1 r2 r3 : Int) (r4 : Bool) (w : World) (hr0 : Kd.C k30 w A0 l0.length l0) (hc0 : l0.length ≤ c0) (h : group_At.f l0 a1_0 a1_1 = some (r1, r2, r3, r4)) :
  Calls Try.prog 28 #[.slice A0 l0.length c0, .agg #[.int .i64 a1_0, .int .i64 a1_1]] w fun e w' => e = .returned (.tuple #[.agg #[.int .i64 r1, .int .i64 r2, .int .i64 r3], .bool r4]) ∧ Below w.heap.size w w' := by
 unfold group_At.f at h
 split at h
 ·
  rename_i hok
  have h := Option.some.inj h
  simp only [Bool.and_eq_true] at hok
  obtain ⟨⟨⟨hall, ht⟩, hA1⟩, hA3⟩ := hok
  have hu30 := Try.underlying30
  have hu50 := Try.underlying50
  have hmm : ∀ (n : Int) (W : World), (Instr.makeMap 71 (some (.int .i64 n))).run Try.prog W = .ok (.map (some W.heap.size)) (W.alloc (.map #[] 0)) := fun n W => by simp [Instr.makeMap, go_sem, Try.underlying71]
  have HR := Aside0.mk hr0
  have HT := Aside0.mk h
  have HALL := Aside0.mk hall
  have hm : l0.length ≤ 9223372036854775807 := by
   have := HR.out.2.1
   omega
  clear hr0 h hall
  go_enter Try.func28, Try.ntmps28
  go_wp2_with (fail)
  go_loopg [17] l0.length (fun g_ v17 wx => ∃ (j : Int) (D : DataW Unit), 0 ≤ j ∧ j + (g_ : Int) = (l0.length : Int) ∧ v17 = .int .i64 j ∧ Aside0 (RelAt D (l0.take j.toNat)) ∧ wx.ownsMap Try.prog 50 grR (w.heap.size + 1 + 1) j.toNat D ∧ wx.heap[w.heap.size]? = some (.cells #[.int .i64 a1_0, .int .i64 a1_1] 50 (0, 0)) ∧ wx.heap[w.heap.size + 1]? = some (.cells #[.int .i64 0, .int .i64 0, .int .i64 0] 30 (0, 0)) ∧ Below w.heap.size w wx)
  case atStart =>
   have hown0 := World.ownsMap_made (H := Unit) ((w.alloc (.cells #[.int .i64 a1_0, .int .i64 a1_1] 50)).alloc (.cells #[.int .i64 0, .int .i64 0, .int .i64 0] 30)) Try.prog 50 grR
   exact ⟨0, .map [], by omega, by omega, rfl, ⟨rel_nil⟩, by simpa using hown0, blk_alloc (blk_alloc (blk_new _ _) _) _, blk_alloc (at_new _ _ _ (by simp)) _, (((Below.refl _ _).alloc (Nat.le_refl _) _).alloc (by simp) _).alloc (by simp; omega) _⟩
  case round =>
   obtain ⟨j, D, hj0, hj, rfl, HP, hown, hk, hres, hb⟩ := hrel
   cases gk with
   | zero =>
    have hd : decide (j < (l0.length : Int)) = false := decide_eq_false (by omega)
    have hPR := HP.out
    rw [List.take_of_length_le (by omega)] at hPR
    obtain ⟨b1, g1, hb1, hk1, e1⟩ : ∃ b g, Go.Maps.has D (kl a1_0 (bits .andNot .i64 a1_1 1)) = b ∧ D.atKey (kl a1_0 (bits .andNot .i64 a1_1 1)) (gE z30) = gE g ∧ (if b = true then atLook l0 a1_0 (bits .andNot .i64 a1_1 1) = some g else atLook l0 a1_0 (bits .andNot .i64 a1_1 1) = none) := look_of hPR _ _ ht hA1
    obtain ⟨b2, g2, hb2, hk2, e2⟩ : ∃ b g, Go.Maps.has D (kl a1_0 (bits .andNot .i64 a1_1 3)) = b ∧ D.atKey (kl a1_0 (bits .andNot .i64 a1_1 3)) (gE z30) = gE g ∧ (if b = true then atLook l0 a1_0 (bits .andNot .i64 a1_1 3) = some g else atLook l0 a1_0 (bits .andNot .i64 a1_1 3) = none) := look_of hPR _ _ ht hA3
    have hc1_0 := (blk_cell hk 0).trans rfl
    have hc1_1 := (blk_cell hk 1).trans rfl
    have hlt1 := blk_lt hk
    have hlt2 := blk_lt hres
    have hc4_0 := (blk_cell hres 0).trans rfl
    have hc4_1 := (blk_cell hres 1).trans rfl
    have hc4_2 := (blk_cell hres 2).trans rfl
    have hf4_0 := blk_frozen hres 0
    have hf4_1 := blk_frozen hres 1
    have hf4_2 := blk_frozen hres 2
    have HOWN := hown
    have hT := HT.out
    unfold atTwo atFour at hT
    cases b1 with
    | true =>
     rw [if_pos rfl] at e1
     rw [e1] at hT
     dsimp only at hT
     by_cases q1 : g1.f2 = 2
     ·
      rw [if_pos q1] at hT
      have d1 : (g1.f2 == 2) = true := beq_iff_eq.mpr q1
      have Q1 := Aside0.mk q1
      clear q1 e1
      go_wp2
      refine wp_loop_rounds 3 ?_
      rw [rounds_succ]
      go_wp2_with ((at_lookup; refine wpList_lookup_own_ok _ rfl _ _ 71 rfl 50 30 at_law Try.underlying71 grR (at_zero _) (gE z30) [] (grR_mk z30) (w.heap.size + 1 + 1) j.toNat D rfl (by first | exact hown | exact hown.alloc _ | exact (hown.alloc _).alloc _) _ (kl a1_0 (bits .andNot .i64 a1_1 1)) rfl (key50 _ _ ht hA1) ?_; intro v1 ps1 hv1; rw [hk1] at hv1; obtain rfl := grR_inv hv1; rw [hb1]))
      simp only [Prod.mk.injEq] at hT
      obtain ⟨rfl, rfl, rfl, rfl⟩ := hT
      have hW := res3 (a := .int .i64 g1.f0) (b := .int .i64 g1.f1) (c := .int .i64 g1.f2) hres
      have hWB := below_set (j := 2) (v := .int .i64 g1.f2) (below_set (j := 1) (v := .int .i64 g1.f1) (below_set (j := 0) (v := .int .i64 g1.f0) hb (show w.heap.size ≤ w.heap.size + 1 by omega)) (show w.heap.size ≤ w.heap.size + 1 by omega)) (show w.heap.size ≤ w.heap.size + 1 by omega)
      have hW := blk_alloc hW (.cells #[.int .i64 g1.f0, .int .i64 g1.f1, .int .i64 g1.f2] 30)
      have hWB := hWB.alloc hWB.size (.cells #[.int .i64 g1.f0, .int .i64 g1.f1, .int .i64 g1.f2] 30)
      have hr0 := (blk_cell hW 0).trans rfl
      have hr1 := (blk_cell hW 1).trans rfl
      have hr2 := (blk_cell hW 2).trans rfl
      exact bodyPost_ret (v := .tuple #[.agg #[.int .i64 g1.f0, .int .i64 g1.f1, .int .i64 g1.f2], .bool true]) (by simp [results, Try.results28, go_sem, hr0, hr1, hr2]) rfl ⟨rfl, hWB⟩
     ·
      rw [if_neg q1] at hT
      have d1 : (g1.f2 == 2) = false := beq_eq_false_iff_ne.mpr q1
      clear q1 e1
      cases b2 with
      | true =>
       rw [if_pos rfl] at e2
       rw [e2] at hT
       dsimp only at hT
       by_cases q2 : g2.f2 = 4
       ·
        rw [if_pos q2] at hT
        have d2 : (g2.f2 == 4) = true := beq_iff_eq.mpr q2
        have Q2 := Aside0.mk q2
        clear q2 e2
        go_wp2
        refine wp_loop_rounds 3 ?_
        rw [rounds_succ]
        go_wp2_with ((at_lookup; refine wpList_lookup_own_ok _ rfl _ _ 71 rfl 50 30 at_law Try.underlying71 grR (at_zero _) (gE z30) [] (grR_mk z30) (w.heap.size + 1 + 1) j.toNat D rfl (by first | exact hown | exact hown.alloc _ | exact (hown.alloc _).alloc _) _ (kl a1_0 (bits .andNot .i64 a1_1 1)) rfl (key50 _ _ ht hA1) ?_; intro v1 ps1 hv1; rw [hk1] at hv1; obtain rfl := grR_inv hv1; rw [hb1]))
        rw [rounds_succ]
        go_wp2_with ((at_lookup; refine wpList_lookup_own_ok _ rfl _ _ 71 rfl 50 30 at_law Try.underlying71 grR (at_zero _) (gE z30) [] (grR_mk z30) (w.heap.size + 1 + 1) j.toNat D rfl (by first | exact hown | exact hown.alloc _ | exact (hown.alloc _).alloc _) _ (kl a1_0 (bits .andNot .i64 a1_1 3)) rfl (key50 _ _ ht hA3) ?_; intro v2 ps2 hv2; rw [hk2] at hv2; obtain rfl := grR_inv hv2; rw [hb2]))
        simp only [Prod.mk.injEq] at hT
        obtain ⟨rfl, rfl, rfl, rfl⟩ := hT
        have hW := res3 (a := .int .i64 g2.f0) (b := .int .i64 g2.f1) (c := .int .i64 g2.f2) hres
        have hWB := below_set (j := 2) (v := .int .i64 g2.f2) (below_set (j := 1) (v := .int .i64 g2.f1) (below_set (j := 0) (v := .int .i64 g2.f0) hb (show w.heap.size ≤ w.heap.size + 1 by omega)) (show w.heap.size ≤ w.heap.size + 1 by omega)) (show w.heap.size ≤ w.heap.size + 1 by omega)
        have hW := blk_alloc hW (.cells #[.int .i64 g1.f0, .int .i64 g1.f1, .int .i64 g1.f2] 30)
        have hWB := hWB.alloc hWB.size (.cells #[.int .i64 g1.f0, .int .i64 g1.f1, .int .i64 g1.f2] 30)
        have hW := blk_alloc hW (.cells #[.int .i64 g2.f0, .int .i64 g2.f1, .int .i64 g2.f2] 30)
        have hWB := hWB.alloc hWB.size (.cells #[.int .i64 g2.f0, .int .i64 g2.f1, .int .i64 g2.f2] 30)
        have hr0 := (blk_cell hW 0).trans rfl
        have hr1 := (blk_cell hW 1).trans rfl
        have hr2 := (blk_cell hW 2).trans rfl
        exact bodyPost_ret (v := .tuple #[.agg #[.int .i64 g2.f0, .int .i64 g2.f1, .int .i64 g2.f2], .bool true]) (by simp [results, Try.results28, go_sem, hr0, hr1, hr2]) rfl ⟨rfl, hWB⟩
       ·
        rw [if_neg q2] at hT
        have d2 : (g2.f2 == 4) = false := beq_eq_false_iff_ne.mpr q2
        clear q2 e2
        go_wp2
        refine wp_loop_rounds 3 ?_
        rw [rounds_succ]
        go_wp2_with ((at_lookup; refine wpList_lookup_own_ok _ rfl _ _ 71 rfl 50 30 at_law Try.underlying71 grR (at_zero _) (gE z30) [] (grR_mk z30) (w.heap.size + 1 + 1) j.toNat D rfl (by first | exact hown | exact hown.alloc _ | exact (hown.alloc _).alloc _) _ (kl a1_0 (bits .andNot .i64 a1_1 1)) rfl (key50 _ _ ht hA1) ?_; intro v1 ps1 hv1; rw [hk1] at hv1; obtain rfl := grR_inv hv1; rw [hb1]))
        rw [rounds_succ]
        go_wp2_with ((at_lookup; refine wpList_lookup_own_ok _ rfl _ _ 71 rfl 50 30 at_law Try.underlying71 grR (at_zero _) (gE z30) [] (grR_mk z30) (w.heap.size + 1 + 1) j.toNat D rfl (by first | exact hown | exact hown.alloc _ | exact (hown.alloc _).alloc _) _ (kl a1_0 (bits .andNot .i64 a1_1 3)) rfl (key50 _ _ ht hA3) ?_; intro v2 ps2 hv2; rw [hk2] at hv2; obtain rfl := grR_inv hv2; rw [hb2]))
        rw [rounds_succ]
        go_wp2
        simp only [Prod.mk.injEq] at hT
        obtain ⟨rfl, rfl, rfl, rfl⟩ := hT
        have hW := res3 (a := .int .i64 0) (b := .int .i64 0) (c := .int .i64 0) hres
        have hWB := below_set (j := 2) (v := .int .i64 0) (below_set (j := 1) (v := .int .i64 0) (below_set (j := 0) (v := .int .i64 0) hb (show w.heap.size ≤ w.heap.size + 1 by omega)) (show w.heap.size ≤ w.heap.size + 1 by omega)) (show w.heap.size ≤ w.heap.size + 1 by omega)
        have hW := blk_alloc hW (.cells #[.int .i64 g1.f0, .int .i64 g1.f1, .int .i64 g1.f2] 30)
        have hWB := hWB.alloc hWB.size (.cells #[.int .i64 g1.f0, .int .i64 g1.f1, .int .i64 g1.f2] 30)
        have hW := blk_alloc hW (.cells #[.int .i64 g2.f0, .int .i64 g2.f1, .int .i64 g2.f2] 30)
        have hWB := hWB.alloc hWB.size (.cells #[.int .i64 g2.f0, .int .i64 g2.f1, .int .i64 g2.f2] 30)
        have hr0 := (blk_cell hW 0).trans rfl
        have hr1 := (blk_cell hW 1).trans rfl
        have hr2 := (blk_cell hW 2).trans rfl
        exact bodyPost_ret (v := .tuple #[.agg #[.int .i64 0, .int .i64 0, .int .i64 0], .bool false]) (by simp [results, Try.results28, go_sem, hr0, hr1, hr2]) rfl ⟨rfl, hWB⟩
      | false =>
       rw [if_neg (by decide)] at e2
       rw [e2] at hT
       dsimp only at hT
       clear e2
       go_wp2
       refine wp_loop_rounds 3 ?_
       rw [rounds_succ]
       go_wp2_with ((at_lookup; refine wpList_lookup_own_ok _ rfl _ _ 71 rfl 50 30 at_law Try.underlying71 grR (at_zero _) (gE z30) [] (grR_mk z30) (w.heap.size + 1 + 1) j.toNat D rfl (by first | exact hown | exact hown.alloc _ | exact (hown.alloc _).alloc _) _ (kl a1_0 (bits .andNot .i64 a1_1 1)) rfl (key50 _ _ ht hA1) ?_; intro v1 ps1 hv1; rw [hk1] at hv1; obtain rfl := grR_inv hv1; rw [hb1]))
       rw [rounds_succ]
       go_wp2_with ((at_lookup; refine wpList_lookup_own_ok _ rfl _ _ 71 rfl 50 30 at_law Try.underlying71 grR (at_zero _) (gE z30) [] (grR_mk z30) (w.heap.size + 1 + 1) j.toNat D rfl (by first | exact hown | exact hown.alloc _ | exact (hown.alloc _).alloc _) _ (kl a1_0 (bits .andNot .i64 a1_1 3)) rfl (key50 _ _ ht hA3) ?_; intro v2 ps2 hv2; rw [hk2] at hv2; obtain rfl := grR_inv hv2; rw [hb2]))
       rw [rounds_succ]
       go_wp2
       simp only [Prod.mk.injEq] at hT
       obtain ⟨rfl, rfl, rfl, rfl⟩ := hT
       have hW := res3 (a := .int .i64 0) (b := .int .i64 0) (c := .int .i64 0) hres
       have hWB := below_set (j := 2) (v := .int .i64 0) (below_set (j := 1) (v := .int .i64 0) (below_set (j := 0) (v := .int .i64 0) hb (show w.heap.size ≤ w.heap.size + 1 by omega)) (show w.heap.size ≤ w.heap.size + 1 by omega)) (show w.heap.size ≤ w.heap.size + 1 by omega)
       have hW := blk_alloc hW (.cells #[.int .i64 g1.f0, .int .i64 g1.f1, .int .i64 g1.f2] 30)
       have hWB := hWB.alloc hWB.size (.cells #[.int .i64 g1.f0, .int .i64 g1.f1, .int .i64 g1.f2] 30)
       have hW := blk_alloc hW (.cells #[.int .i64 g2.f0, .int .i64 g2.f1, .int .i64 g2.f2] 30)
       have hWB := hWB.alloc hWB.size (.cells #[.int .i64 g2.f0, .int .i64 g2.f1, .int .i64 g2.f2] 30)
       have hr0 := (blk_cell hW 0).trans rfl
       have hr1 := (blk_cell hW 1).trans rfl
       have hr2 := (blk_cell hW 2).trans rfl
       exact bodyPost_ret (v := .tuple #[.agg #[.int .i64 0, .int .i64 0, .int .i64 0], .bool false]) (by simp [results, Try.results28, go_sem, hr0, hr1, hr2]) rfl ⟨rfl, hWB⟩
    | false =>
     rw [if_neg (by decide)] at e1
     rw [e1] at hT
     dsimp only at hT
     clear e1
     cases b2 with
     | true =>
      rw [if_pos rfl] at e2
      rw [e2] at hT
      dsimp only at hT
      by_cases q2 : g2.f2 = 4
      ·
       rw [if_pos q2] at hT
       have d2 : (g2.f2 == 4) = true := beq_iff_eq.mpr q2
       have Q2 := Aside0.mk q2
       clear q2 e2
       go_wp2
       refine wp_loop_rounds 3 ?_
       rw [rounds_succ]
       go_wp2_with ((at_lookup; refine wpList_lookup_own_ok _ rfl _ _ 71 rfl 50 30 at_law Try.underlying71 grR (at_zero _) (gE z30) [] (grR_mk z30) (w.heap.size + 1 + 1) j.toNat D rfl (by first | exact hown | exact hown.alloc _ | exact (hown.alloc _).alloc _) _ (kl a1_0 (bits .andNot .i64 a1_1 1)) rfl (key50 _ _ ht hA1) ?_; intro v1 ps1 hv1; rw [hk1] at hv1; obtain rfl := grR_inv hv1; rw [hb1]))
       rw [rounds_succ]
       go_wp2_with ((at_lookup; refine wpList_lookup_own_ok _ rfl _ _ 71 rfl 50 30 at_law Try.underlying71 grR (at_zero _) (gE z30) [] (grR_mk z30) (w.heap.size + 1 + 1) j.toNat D rfl (by first | exact hown | exact hown.alloc _ | exact (hown.alloc _).alloc _) _ (kl a1_0 (bits .andNot .i64 a1_1 3)) rfl (key50 _ _ ht hA3) ?_; intro v2 ps2 hv2; rw [hk2] at hv2; obtain rfl := grR_inv hv2; rw [hb2]))
       simp only [Prod.mk.injEq] at hT
       obtain ⟨rfl, rfl, rfl, rfl⟩ := hT
       have hW := res3 (a := .int .i64 g2.f0) (b := .int .i64 g2.f1) (c := .int .i64 g2.f2) hres
       have hWB := below_set (j := 2) (v := .int .i64 g2.f2) (below_set (j := 1) (v := .int .i64 g2.f1) (below_set (j := 0) (v := .int .i64 g2.f0) hb (show w.heap.size ≤ w.heap.size + 1 by omega)) (show w.heap.size ≤ w.heap.size + 1 by omega)) (show w.heap.size ≤ w.heap.size + 1 by omega)
       have hW := blk_alloc hW (.cells #[.int .i64 g1.f0, .int .i64 g1.f1, .int .i64 g1.f2] 30)
       have hWB := hWB.alloc hWB.size (.cells #[.int .i64 g1.f0, .int .i64 g1.f1, .int .i64 g1.f2] 30)
       have hW := blk_alloc hW (.cells #[.int .i64 g2.f0, .int .i64 g2.f1, .int .i64 g2.f2] 30)
       have hWB := hWB.alloc hWB.size (.cells #[.int .i64 g2.f0, .int .i64 g2.f1, .int .i64 g2.f2] 30)
       have hr0 := (blk_cell hW 0).trans rfl
       have hr1 := (blk_cell hW 1).trans rfl
       have hr2 := (blk_cell hW 2).trans rfl
       exact bodyPost_ret (v := .tuple #[.agg #[.int .i64 g2.f0, .int .i64 g2.f1, .int .i64 g2.f2], .bool true]) (by simp [results, Try.results28, go_sem, hr0, hr1, hr2]) rfl ⟨rfl, hWB⟩
      ·
       rw [if_neg q2] at hT
       have d2 : (g2.f2 == 4) = false := beq_eq_false_iff_ne.mpr q2
       clear q2 e2
       go_wp2
       refine wp_loop_rounds 3 ?_
       rw [rounds_succ]
       go_wp2_with ((at_lookup; refine wpList_lookup_own_ok _ rfl _ _ 71 rfl 50 30 at_law Try.underlying71 grR (at_zero _) (gE z30) [] (grR_mk z30) (w.heap.size + 1 + 1) j.toNat D rfl (by first | exact hown | exact hown.alloc _ | exact (hown.alloc _).alloc _) _ (kl a1_0 (bits .andNot .i64 a1_1 1)) rfl (key50 _ _ ht hA1) ?_; intro v1 ps1 hv1; rw [hk1] at hv1; obtain rfl := grR_inv hv1; rw [hb1]))
       rw [rounds_succ]
       go_wp2_with ((at_lookup; refine wpList_lookup_own_ok _ rfl _ _ 71 rfl 50 30 at_law Try.underlying71 grR (at_zero _) (gE z30) [] (grR_mk z30) (w.heap.size + 1 + 1) j.toNat D rfl (by first | exact hown | exact hown.alloc _ | exact (hown.alloc _).alloc _) _ (kl a1_0 (bits .andNot .i64 a1_1 3)) rfl (key50 _ _ ht hA3) ?_; intro v2 ps2 hv2; rw [hk2] at hv2; obtain rfl := grR_inv hv2; rw [hb2]))
       rw [rounds_succ]
       go_wp2
       simp only [Prod.mk.injEq] at hT
       obtain ⟨rfl, rfl, rfl, rfl⟩ := hT
       have hW := res3 (a := .int .i64 0) (b := .int .i64 0) (c := .int .i64 0) hres
       have hWB := below_set (j := 2) (v := .int .i64 0) (below_set (j := 1) (v := .int .i64 0) (below_set (j := 0) (v := .int .i64 0) hb (show w.heap.size ≤ w.heap.size + 1 by omega)) (show w.heap.size ≤ w.heap.size + 1 by omega)) (show w.heap.size ≤ w.heap.size + 1 by omega)
       have hW := blk_alloc hW (.cells #[.int .i64 g1.f0, .int .i64 g1.f1, .int .i64 g1.f2] 30)
       have hWB := hWB.alloc hWB.size (.cells #[.int .i64 g1.f0, .int .i64 g1.f1, .int .i64 g1.f2] 30)
       have hW := blk_alloc hW (.cells #[.int .i64 g2.f0, .int .i64 g2.f1, .int .i64 g2.f2] 30)
       have hWB := hWB.alloc hWB.size (.cells #[.int .i64 g2.f0, .int .i64 g2.f1, .int .i64 g2.f2] 30)
       have hr0 := (blk_cell hW 0).trans rfl
       have hr1 := (blk_cell hW 1).trans rfl
       have hr2 := (blk_cell hW 2).trans rfl
       exact bodyPost_ret (v := .tuple #[.agg #[.int .i64 0, .int .i64 0, .int .i64 0], .bool false]) (by simp [results, Try.results28, go_sem, hr0, hr1, hr2]) rfl ⟨rfl, hWB⟩
     | false =>
      rw [if_neg (by decide)] at e2
      rw [e2] at hT
      dsimp only at hT
      clear e2
      go_wp2
      refine wp_loop_rounds 3 ?_
      rw [rounds_succ]
      go_wp2_with ((at_lookup; refine wpList_lookup_own_ok _ rfl _ _ 71 rfl 50 30 at_law Try.underlying71 grR (at_zero _) (gE z30) [] (grR_mk z30) (w.heap.size + 1 + 1) j.toNat D rfl (by first | exact hown | exact hown.alloc _ | exact (hown.alloc _).alloc _) _ (kl a1_0 (bits .andNot .i64 a1_1 1)) rfl (key50 _ _ ht hA1) ?_; intro v1 ps1 hv1; rw [hk1] at hv1; obtain rfl := grR_inv hv1; rw [hb1]))
      rw [rounds_succ]
      go_wp2_with ((at_lookup; refine wpList_lookup_own_ok _ rfl _ _ 71 rfl 50 30 at_law Try.underlying71 grR (at_zero _) (gE z30) [] (grR_mk z30) (w.heap.size + 1 + 1) j.toNat D rfl (by first | exact hown | exact hown.alloc _ | exact (hown.alloc _).alloc _) _ (kl a1_0 (bits .andNot .i64 a1_1 3)) rfl (key50 _ _ ht hA3) ?_; intro v2 ps2 hv2; rw [hk2] at hv2; obtain rfl := grR_inv hv2; rw [hb2]))
      rw [rounds_succ]
      go_wp2
      simp only [Prod.mk.injEq] at hT
      obtain ⟨rfl, rfl, rfl, rfl⟩ := hT
      have hW := res3 (a := .int .i64 0) (b := .int .i64 0) (c := .int .i64 0) hres
      have hWB := below_set (j := 2) (v := .int .i64 0) (below_set (j := 1) (v := .int .i64 0) (below_set (j := 0) (v := .int .i64 0) hb (show w.heap.size ≤ w.heap.size + 1 by omega)) (show w.heap.size ≤ w.heap.size + 1 by omega)) (show w.heap.size ≤ w.heap.size + 1 by omega)
      have hW := blk_alloc hW (.cells #[.int .i64 g1.f0, .int .i64 g1.f1, .int .i64 g1.f2] 30)
      have hWB := hWB.alloc hWB.size (.cells #[.int .i64 g1.f0, .int .i64 g1.f1, .int .i64 g1.f2] 30)
      have hW := blk_alloc hW (.cells #[.int .i64 g2.f0, .int .i64 g2.f1, .int .i64 g2.f2] 30)
      have hWB := hWB.alloc hWB.size (.cells #[.int .i64 g2.f0, .int .i64 g2.f1, .int .i64 g2.f2] 30)
      have hr0 := (blk_cell hW 0).trans rfl
      have hr1 := (blk_cell hW 1).trans rfl
      have hr2 := (blk_cell hW 2).trans rfl
      exact bodyPost_ret (v := .tuple #[.agg #[.int .i64 0, .int .i64 0, .int .i64 0], .bool false]) (by simp [results, Try.results28, go_sem, hr0, hr1, hr2]) rfl ⟨rfl, hWB⟩
   | succ g1 =>
    have hd : decide (j < (l0.length : Int)) = true := decide_eq_true (by omega)
    obtain ⟨ad, e, hx0, hx1, hx2⟩ := at_T30 (Kd.C_below HR.out hb) j (by omega) (by omega)
    cases e
    have p0 : (0 ≤ j) = True := eq_true (by omega)
    have q0 : (j < (l0.length : Int)) = True := eq_true (by omega)
    have hil : j.toNat < l0.length := by omega
    have hget : rd_T30 l0 j = l0[j.toNat] := by unfold rd_T30; rw [List.getD_eq_getElem?_getD, List.getElem?_eq_getElem hil, Option.getD_some]
    have hX : inI (rd_T30 l0 j).f0 = true ∧ inI (rd_T30 l0 j).f1 = true := by
     have := List.all_eq_true.1 HALL.out _ (hget ▸ List.getElem_mem hil)
     simpa using this
    have htake : l0.take (j.toNat + 1) = l0.take j.toNat ++ [rd_T30 l0 j] := by rw [List.take_succ_eq_append_getElem hil, hget]
    generalize rd_T30 l0 j = x at hx0 hx1 hx2 hX htake
    have HX := Aside0.mk hX
    have HTK := Aside0.mk htake
    have HK := Aside0.mk hk
    have HRES := Aside0.mk hres
    have HB := Aside0.mk hb
    clear hX htake hget hk hres
    go_wp2_with (at_mapUpdate; refine wpList_mapUpdate_own _ rfl _ _ _ 71 rfl 50 30 at_law Try.underlying71 grR (w.heap.size + 1 + 1) j.toNat D rfl (hown.alloc _) (by unfold maxLen; omega) _ _ (kl x.f0 x.f1) rfl rfl (key50 x.f0 x.f1 HX.out.1 HX.out.2) (gE x) [] (grR_mk x) ?_; intro w1 hown1 hgrow1)
    go_roundg g1
    case measure => omega
    case rel =>
     have ht1 : (j + 1).toNat = j.toNat + 1 := by omega
     have hsz := HB.out.size
     have hlt1 := blk_lt HK.out
     have hlt2 := blk_lt HRES.out
     exact ⟨j + 1, D.put (kl x.f0 x.f1) (gE x), by omega, by omega, by first | rfl | simp, ⟨by rw [ht1, HTK.out]; exact rel_put HP.out x HX.out.1 HX.out.2⟩, by rw [ht1]; exact hown1, (hgrow1.block _ (by simp; omega) (by simp <;> omega)).trans (blk_alloc HK.out _), (hgrow1.block _ (by simp; omega) (by simp <;> omega)).trans (blk_alloc HRES.out _), (HB.out.alloc hsz _).grown hgrow1 (by simp; omega) (fun k e => by have := Option.some.inj e; omega)⟩
 ·
  cases h

end Go.Proofs.Ytmbkbpaoiilicaa.PGroupA
