/- Lemmas of this session's beside the print's words: make([]T, 0, n). -/
import Derived.Test.YtmbkbpaoiilicaaWWords
import Derived.Laws.MakeOwn
set_option linter.unusedVariables false
set_option linter.unusedSimpArgs false
namespace Go.Proofs.YtmbkbpaoiilicaaW.PrintWords
open Go.RowKit
theorem plus_cell_same (w : World) (a : Addr) (v : Value) : (w.setCell a v).cell? a = (w.cell? a).map fun _ => v := by
  cases h : w.cell? a with
  | some u => rw [World.cell?_setCell_same w a v h]; rfl
  | none =>
    unfold World.cell? at h ⊢
    simp only [World.setCell, Array.getElem?_modify, if_true]
    cases hb : w.heap[a.block]? with
    | none => rfl
    | some o =>
      cases o with
      | cells c e f =>
        rw [hb] at h
        by_cases hs : a.spot.isSome = true
        · simp [hs]
        · simp only [hs, Bool.false_eq_true, if_false] at h
          simp [hs]
          simpa using h
      | _ => rfl
theorem plus_setCell_drewN (w : World) (n : Nat) (p : Addr) (v : Value) : (w.drewN n).setCell p v = (w.setCell p v).drewN n := rfl
namespace Kd
variable {P : Program} {ops : Array Oper} {rest : List Oper} {o : Oper} {a : Act} {Q : Exit → Act → World → Prop} {α : Type}
theorem R_make0 (d : Kd α) {w0 W : World} (base e : Nat) (hgd : o.guard = none) {N : Tmp} (hd : o.dst = some N) (t : TypeId) (x y : Operand) (ho : o.op = .makeSlice t x y) (n : Int) (hx : a.eval x = .int .i64 0) (hy : a.eval y = .int .i64 n)
    (ht : P.underlying t = some (.slice e)) (z : Value) (bytes : Nat) (hinfo : (P.info? e).map (fun i => (i.zero, i.size, i.bytes)) = some (some z, d.sz, bytes)) (hz : z.cells.size = d.sz) (hs0 : 0 < d.sz) (hb0 : 0 < bytes)
    (z0 : α) {ok okp : Nat → Prop} (hzero : d.M W base okp z0 z.cells.toList) (hok : ∀ k, okp k → ok k) (hfresh : ok W.heap.size) (h0 : 0 ≤ n) (hl : n.toNat * bytes ≤ 281474976710656) (HB : Below base w0 W) (hbase : base ≤ W.heap.size)
    (h : ∀ v1 w1, d.R e w1 base ok v1 (List.replicate 0 z0) → Below base w0 w1 → W.grownBy w1 none → (∃ b, v1.ownBlock = some b ∧ W.heap.size ≤ b) → wpList P ops Q rest (a.put o.dst v1) w1) : wpList P ops Q (o :: rest) a W := by
  obtain ⟨m, rfl⟩ := Int.eq_ofNat_of_zero_le h0
  simp only [Int.toNat_natCast] at hl
  obtain ⟨i0, hi, hzz⟩ := Option.map_eq_some_iff.1 hinfo
  simp only [Prod.mk.injEq] at hzz
  obtain ⟨hz0, hz1, hz2⟩ := hzz
  have hm : m ≤ 281474976710656 := Nat.le_trans (Nat.le_mul_of_pos_right _ hb0) hl
  have hr := run_make (P := P) W t e i0 z ht hi hz0 .i64 .i64 0 (m : Int) (by omega) (by omega)
    (by
      have h3 : ((i0.bytes * m : Nat) : Int) ≤ 281474976710656 := by rw [hz2, Nat.mul_comm]; omega
      rwa [Int.natCast_mul] at h3) (by omega)
  simp only [Int.toNat_natCast, Int.toNat_zero] at hr
  have hrun : (execOp a.eval o).run P W = .ok (.value (.slice (some ⟨W.heap.size, 0, none⟩) 0 m)) (W.alloc (.cells (madeCells z.cells (m * i0.size)) e)) := by
    simp [execOp, ho, hx, hy, hr]
  refine event_run hgd hrun (h _ _ ⟨fun k hk => ?_, [], ⟨by simp, .inr ⟨W.heap.size, m, madeCells z.cells (m * i0.size), rfl, hbase, blk_new W _, Nat.zero_le _, by simp only [maxLen]; omega, by rw [size_madeCells, hz1], by simp⟩⟩, Reps.none _ _⟩ (HB.alloc hbase _) (World.grownBy_alloc W _ none) ⟨W.heap.size, by simp [Value.ownBlock], Nat.le_refl _⟩)
  have : W.heap.size = k := by simpa [Value.ownBlock] using hk
  subst this
  exact hfresh
/-- A kind whose cells do not hang on the world: what reads so is so anywhere. -/
def Flat {α : Type} (d : Kd α) : Prop := 0 < d.sz ∧ ∀ (w w' : World) (base : Nat) (ok : Nat → Prop) (x : α) (cs : List Value), d.K w x cs → d.M w' base ok x cs
theorem flat_int (k : IntKind) : Flat (Kd.int k) := ⟨Nat.one_pos, fun _ _ _ _ _ _ h => h⟩
theorem flat_bool : Flat Kd.bool := ⟨Nat.one_pos, fun _ _ _ _ _ _ h => h⟩
/-- The list behind a copy: n elements of ys laid over xs from place off on. -/
def laid {α : Type} (xs : List α) (off n : Nat) (ys : List α) : List α := xs.take off ++ (ys.take n ++ xs.drop (off + n))
theorem laid_length {α : Type} (xs : List α) (off n : Nat) (ys : List α) (h : off + n ≤ xs.length) (hn : n ≤ ys.length) : (laid xs off n ys).length = xs.length := by
  simp [laid]; omega
theorem laid_cells (l news : List Value) (o N : Nat) (h : o + news.length ≤ N) (hN : N ≤ l.length) : (l.take o ++ news ++ l.drop (o + news.length)).take N = (l.take N).take o ++ (news ++ (l.take N).drop (o + news.length)) := by
  rw [List.take_take, Nat.min_eq_left (by omega), List.drop_take, List.append_assoc, List.take_append, List.length_take, Nat.min_eq_left (by omega), List.take_of_length_le (by rw [List.length_take]; omega), List.take_append, List.take_of_length_le (l := news) (by omega)]
  congr 3
  omega
/-- How many are copied. -/
def cnt (a b : Nat) : Int := ((min a b : Nat) : Int)
/-- copy(v[off:], ys), v a row of one's own, ys whatever is read (v's own elements, too). -/
theorem R_copy_run (d : Kd α) (hf : Flat d) {W : World} {base : Nat} (t1 t2 ty e : TypeId) (i : TypeInfo) (ht : P.underlying t1 = some (.slice e)) (hi : P.info? e = some i) (hsz : i.size = d.sz)
    {g n c off m1 c1 m2 c2 : Nat} {A1 A2 : Option Addr} {xs ys : List α} {ok : Nat → Prop} (HO : d.R e W base ok (.slice (some ⟨g, 0, none⟩) n c) xs)
    (hm : off + m1 ≤ n) (hA : 0 < min m2 m1 → A1 = some ⟨g, off * d.sz, none⟩) (HR : d.C W A2 m2 ys) :
    ∃ w1, (Builtin.copy_ #[t1, t2] ty #[.slice A1 m1 c1, .slice A2 m2 c2]).run P W = .ok (.int .i64 ((min m2 m1 : Nat) : Int)) w1 ∧
      d.R e w1 base ok (.slice (some ⟨g, 0, none⟩) n c) (laid xs off (min m2 m1) ys) ∧ W.grownBy w1 (some g) := by
  have hm2 : ys.length = m2 := HR.1
  obtain ⟨hn, hnc, _⟩ := R_reads' HO
  rcases Nat.eq_zero_or_pos (min m2 m1) with h0 | hp
  · refine ⟨W, ?_, by rw [h0]; simpa [laid] using HO, World.grownBy.refl W _⟩
    have hn0 : Nat.min m2 m1 = 0 := h0
    have hl : ∀ (x : Addr), (loadCells x 0).run P W = .ok #[] W := fun x => by simpa using run_loadCells_list (P := P) W x [] (by simp)
    cases A1 <;> cases A2 <;> simp [Builtin.copy_, run_underlying ht, Builtin.lenOf, Builtin.firstCells, sizeOf, typeInfo, hi, hn0, h0, storeCells, hl, goInt]
  · obtain ⟨k, hk⟩ : ∃ k, k = min m2 m1 := ⟨_, rfl⟩
    rw [← hk] at hp hA ⊢
    have hk1 : k ≤ m1 := by omega
    have hk2 : k ≤ m2 := by omega
    have hA1 := hA hp
    subst hA1
    obtain ⟨hok, inner, hown, hr⟩ := HO
    have hin : inner.length = n * d.sz := by rw [hr.1, hn]
    rcases hown.2 with ⟨hv, _⟩ | ⟨g', cap', cur, hv, hb, hh, _, hcm, hcs, htake⟩
    · cases hv
    injection hv with ha _ hc
    injection ha with ha
    injection ha with hg
    subst hg; subst hc
    rw [← hn] at htake
    obtain ⟨ad, rfl, _⟩ := HR.2.2 (by omega)
    obtain ⟨inn2, hr2, hc2⟩ := ReadsRow.inner_ HR
    obtain ⟨news, hnews⟩ : ∃ news, news = inn2.take (k * d.sz) := ⟨_, rfl⟩
    have hrn : Reps (d.K W) d.sz (ys.take k) news := by rw [hnews]; exact reps_take hr2 (by omega)
    have hnl : news.length = k * d.sz := by rw [hrn.1, List.length_take, Nat.min_eq_left (by omega)]
    have hnc' : n * d.sz ≤ c * d.sz := Nat.mul_le_mul_right _ hnc
    have hok1 : (off + k) * d.sz ≤ n * d.sz := Nat.mul_le_mul_right _ (by omega)
    have hok2 : (off + k) * d.sz = off * d.sz + k * d.sz := Nat.add_mul _ _ _
    have hcell : ∀ j u, news[j]? = some u → W.cell? (ad.add j) = some u := by
      intro j u hu
      refine hc2 j u ?_
      rw [hnews, List.getElem?_take] at hu
      split at hu
      · exact hu
      · cases hu
    have hone : ∀ u ∈ news, u.oneCell' = true := by
      intro u hu
      obtain ⟨q, hq, rfl⟩ := List.mem_iff_getElem.1 hu
      have hql : q / d.sz < (ys.take k).length := by
        rw [Nat.div_lt_iff_lt_mul hf.1, ← hrn.1]
        exact hq
      refine d.K_one (hrn.2 (q / d.sz) _ (List.getElem?_eq_getElem hql)) _ ?_
      rw [List.mem_iff_getElem?]
      refine ⟨q % d.sz, ?_⟩
      rw [List.getElem?_take, if_pos (Nat.mod_lt _ hf.1), List.getElem?_drop, Nat.mul_comm, Nat.div_add_mod, List.getElem?_eq_getElem hq]
    have hfit : off * d.sz + news.length ≤ cur.size := by omega
    have hl := run_loadCells_list (P := P) W ad news hcell
    have hst := run_storeCells_cells (P := P) g (off * d.sz) news 0 W (fun j hj => by rw [cell_of_row W g _ cur e (0, 0) hh]; simp; omega) (fun j _ => blk_frozen hh _) hone
    rw [Nat.add_zero] at hst
    have hmin : Nat.min m2 m1 = k := hk.symm
    have hrun : (Builtin.copy_ #[t1, t2] ty #[.slice (some ⟨g, off * d.sz, none⟩) m1 c1, .slice (some ad) m2 c2]).run P W = .ok (.int .i64 ((k : Nat) : Int)) (W.setCells g (off * d.sz) news) := by
      simp [Builtin.copy_, run_underlying ht, Builtin.lenOf, Builtin.firstCells, sizeOf, typeInfo, hi, hsz, hmin, ← hnl, hl, hst, goInt]
    obtain ⟨cur', h3, h4, h5⟩ := setCells_row news (off * d.sz) W cur hh hfit
    obtain ⟨s1, s2, s3, s4⟩ := setCells_same g news (off * d.sz) W
    have hfar : ∀ k', k' ≠ g → (W.setCells g (off * d.sz) news).heap[k']? = W.heap[k']? := fun k' hk' => setCells_far news _ k' hk'
    have hel : (laid xs off k ys).length = n := by rw [laid_length _ _ _ _ (by omega) (by omega), hn]
    refine ⟨_, hrun, ⟨hok, inner.take (off * d.sz) ++ (news ++ inner.drop ((off + k) * d.sz)), ⟨?_, .inr ⟨g, c, cur', by rw [hel], hb, h3, by rw [hel]; exact hnc, hcm, by rw [h4, hcs], ?_⟩⟩, ?_⟩, ⟨s1, s2, s3, by rw [s4]; exact Nat.le_refl _, fun k' _ hk' => hfar k' (fun he => hk' (by rw [he]))⟩⟩
    · rw [List.length_append, List.length_append, List.length_take, List.length_drop, hnl, hel]
      omega
    · rw [hel, h5]
      rw [← htake, hok2, ← hnl]
      exact laid_cells _ _ _ _ (by omega) (by simp; omega)
    · have hmv : ∀ p q, d.M W base (fun k' => ok k' ∧ some k' ≠ (Value.slice (some ⟨g, 0, none⟩) n c).ownBlock) p q → d.M (W.setCells g (off * d.sz) news) base (fun k' => ok k' ∧ some k' ≠ (Value.slice (some ⟨g, 0, none⟩) n c).ownBlock) p q := fun p q hp =>
        hf.2 W _ _ _ p q (d.K_of_M hp)
      exact reps_append ((reps_take hr (by omega)).imp_ hmv) (reps_append (hrn.imp_ (fun p q hp => hf.2 W _ _ _ p q hp)) ((reps_drop hr).imp_ hmv))
theorem R_copy_at (d : Kd α) (hf : Flat d) {w0 W : World} (base : Nat) (hgd : o.guard = none) (s x : Operand) (t1 t2 e : TypeId) (ho : o.op = .call { callee := .builtin .copy, args := #[s, x], argTypes := #[t1, t2] })
    (ht : P.underlying t1 = some (.slice e)) (hinfo : (P.info? e).map (·.size) = some d.sz) {g n c m1 c1 m2 c2 : Nat} {A1 A2 : Option Addr} {xs : List α} (off : Nat) (ys : List α) {ok : Nat → Prop}
    (hs : a.eval s = .slice A1 m1 c1) (hx : a.eval x = .slice A2 m2 c2) (HO : d.R e W base ok (.slice (some ⟨g, 0, none⟩) n c) xs)
    (hm : off + m1 ≤ n) (hA : 0 < min m2 m1 → A1 = some ⟨g, off * d.sz, none⟩) (HR : d.C W A2 m2 ys) (HB : Below base w0 W) (hbase : base ≤ W.heap.size)
    (h : ∀ w1, d.R e w1 base ok (.slice (some ⟨g, 0, none⟩) n c) (laid xs off (min m2 m1) ys) → Below base w0 w1 → W.grownBy w1 (some g) → wpList P ops Q rest (a.put o.dst (.int .i64 (cnt m2 m1))) w1) : wpList P ops Q (o :: rest) a W := by
  obtain ⟨i0, hi, hsz⟩ := Option.map_eq_some_iff.1 hinfo
  obtain ⟨w1, hr, h1, h2⟩ := R_copy_run (P := P) d hf t1 t2 o.type e i0 ht hi hsz (c1 := c1) (c2 := c2) HO hm hA HR
  refine wpList_plain hgd fun K hK => ?_
  unfold Oper.wp execOp
  simp only [ho, resolve, invoke, builtin, Sem.run_bind, Sem.run_pure, Result.andThen_ok, List.map_toArray, List.map_cons, List.map_nil, hs, hx, hr]
  exact hK _ _ (h w1 h1 (HB.grown h2 hbase (fun k hk => by injection hk with hk; subst hk; exact R_base HO _ (by simp [Value.ownBlock]))) h2)
theorem R_copy_at_step {Kc : Act → World → Prop} (d : Kd α) (hf : Flat d) {w0 W : World} (base : Nat) (hw : Region.wanted o (yielded ops a.tmps) = true) (s x : Operand) (t1 t2 e : TypeId) (ho : o.op = .call { callee := .builtin .copy, args := #[s, x], argTypes := #[t1, t2] })
    (ht : P.underlying t1 = some (.slice e)) (hinfo : (P.info? e).map (·.size) = some d.sz) {g n c m1 c1 m2 c2 : Nat} {A1 A2 : Option Addr} {xs : List α} (off : Nat) (ys : List α) {ok : Nat → Prop}
    (hs : a.eval s = .slice A1 m1 c1) (hx : a.eval x = .slice A2 m2 c2) (HO : d.R e W base ok (.slice (some ⟨g, 0, none⟩) n c) xs)
    (hm : off + m1 ≤ n) (hA : 0 < min m2 m1 → A1 = some ⟨g, off * d.sz, none⟩) (HR : d.C W A2 m2 ys) (HB : Below base w0 W) (hbase : base ≤ W.heap.size)
    (h : ∀ w1, d.R e w1 base ok (.slice (some ⟨g, 0, none⟩) n c) (laid xs off (min m2 m1) ys) → Below base w0 w1 → W.grownBy w1 (some g) → Kc (a.put o.dst (.int .i64 (cnt m2 m1))) w1) :
    if Region.wanted o (yielded ops a.tmps) = true then Oper.wp P o a W Kc Q else Kc (a.put o.dst undef) W := by
  obtain ⟨i0, hi, hsz⟩ := Option.map_eq_some_iff.1 hinfo
  obtain ⟨w1, hr, h1, h2⟩ := R_copy_run (P := P) d hf t1 t2 o.type e i0 ht hi hsz (c1 := c1) (c2 := c2) HO hm hA HR
  rw [if_pos hw]
  unfold Oper.wp execOp
  simp only [ho, resolve, invoke, builtin, Sem.run_bind, Sem.run_pure, Result.andThen_ok, List.map_toArray, List.map_cons, List.map_nil, hs, hx, hr]
  exact (h w1 h1 (HB.grown h2 hbase (fun k hk => by injection hk with hk; subst hk; exact R_base HO _ (by simp [Value.ownBlock]))) h2)
end Kd
end Go.Proofs.YtmbkbpaoiilicaaW.PrintWords
