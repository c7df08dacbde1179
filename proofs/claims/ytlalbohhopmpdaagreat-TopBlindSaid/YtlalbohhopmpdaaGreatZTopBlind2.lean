/- Words and walks for TopBlind (made of the session's own texts; each part by itself). -/
import Derived.Laws.StructEq
import Derived.Laws.MakeOwn
import Derived.Test.YtlalbohhopmpdaaGreatZTopBlind1
set_option maxRecDepth 100000
set_option maxHeartbeats 8000000
set_option linter.unusedVariables false
set_option linter.unusedSimpArgs false
namespace Go.YW.PrintWords
open Go.RowKit
section
variable {P : Program} {d : Nat} {xs ys : Array Value} {f : Field} {fs : List Field} {a b : Value} {r s : Bool} {w : World}
theorem zbo (hn : (f.name == "_") = false) (ha : (part f.type xs f.offset).run P w = .ok a w) (hb : (part f.type ys f.offset).run P w = .ok b w) (he : (Op.equalIn d f.type a b).run P w = .ok r w) : (Op.eqFields d xs ys [f]).run P w = .ok r w := by
  have hn' : f.name ≠ "_" := by simpa using hn
  simp only [Op.eqFields, if_pos hn', Sem.run_bind, ha, hb, he, Result.andThen_ok]
  cases r <;> simp
theorem QS (hn : (f.name == "_") = false) (ha : (part f.type xs f.offset).run P w = .ok a w) (hb : (part f.type ys f.offset).run P w = .ok b w) (he : (Op.equalIn d f.type a b).run P w = .ok r w) (hr : (Op.eqFields d xs ys fs).run P w = .ok s w) : (Op.eqFields d xs ys (f :: fs)).run P w = .ok (r && s) w := by
  have hn' : f.name ≠ "_" := by simpa using hn
  rw [Op.eqFields]
  simp only [if_pos hn', Sem.run_bind, ha, hb, he, Result.andThen_ok]
  cases r
  · simp
  · simpa using hr
theorem zdd {t : TypeId} {fs : Array Field} (hu : P.underlying t = some (.struct fs)) (hp : P.stoodInHeld t = false) (h : (Op.eqFields d xs ys fs.toList).run P w = .ok r w) : (Op.equalIn (d + 1) t (.agg xs) (.agg ys)).run P w = .ok r w := by
  have hf : P.fieldsOf t = fs := by simp [Program.fieldsOf, hu]
  rw [run_equalIn_struct (P := P) w d t xs ys (by rw [hf]; exact hu) hp, hf]
  exact h
end
theorem yJ.one {α : Type} {R : α → List Value → Prop} {ps : List α} {cs : List Value} {p : α} {v : Value} (hp : R p [v]) (h : yJ R 1 ps cs) : yJ R 1 (p :: ps) (v :: cs) := by
  refine ⟨by simp [h.1], fun j q hq => ?_⟩
  cases j with
  | zero =>
    simp only [List.getElem?_cons_zero, Option.some.injEq] at hq
    subst hq
    simpa using hp
  | succ j =>
    simp only [List.getElem?_cons_succ] at hq
    have h1 := h.2 j q hq
    simpa [Nat.mul_one] using h1
theorem yJ.front {α : Type} {R : α → List Value → Prop} {size : Nat} {ps : List α} {cs c all : List Value} {p : α} (hp : R p c) (hc : c.length = size) (h : yJ R size ps cs) (ha : c ++ cs = all) : yJ R size (p :: ps) all := by
  subst ha
  refine ⟨by rw [List.length_append, hc, h.1, List.length_cons, Nat.succ_mul, Nat.add_comm], fun j q hq => ?_⟩
  cases j with
  | zero =>
    simp only [List.getElem?_cons_zero, Option.some.injEq] at hq
    subst hq
    rw [Nat.zero_mul, List.drop_zero, List.take_append_of_le_length (by omega), List.take_of_length_le (by omega)]
    exact hp
  | succ j =>
    simp only [List.getElem?_cons_succ] at hq
    have h1 := h.2 j q hq
    rw [Nat.succ_mul, List.drop_append, List.drop_of_length_le (by rw [hc]; exact Nat.le_add_left _ _), List.nil_append, hc, Nat.add_sub_cancel]
    exact h1
theorem yJ.c2 {α : Type} {R : α → List Value → Prop} {ps : List α} {cs : List Value} {p : α} {va vb : Value} (hp : R p [va, vb]) (h : yJ R 2 ps cs) : yJ R 2 (p :: ps) (va :: vb :: cs) := yJ.front hp rfl h rfl
theorem yJ.c3 {α : Type} {R : α → List Value → Prop} {ps : List α} {cs : List Value} {p : α} {va vb vc : Value} (hp : R p [va, vb, vc]) (h : yJ R 3 ps cs) : yJ R 3 (p :: ps) (va :: vb :: vc :: cs) := yJ.front hp rfl h rfl
end Go.YW.PrintWords
namespace Go.YW.PrintWords
open Go.RowKit
theorem Kd.R_flat {α : Type} {d : Kd α} {e base : Nat} {ok ok' : Nat → Prop} {w : World} {v : Value} {xs : List α} (hd : ∀ {ok1 ok2 : Nat → Prop} {x : α} {cs : List Value}, d.M w base ok1 x cs → d.M w base ok2 x cs) (h : d.R e w base ok v xs) (hok : ∀ k, v.ownBlock = some k → ok k → ok' k) : d.R e w base ok' v xs := by
  obtain ⟨h0, inner, hown, hr⟩ := h
  exact ⟨fun k hk => hok k hk (h0 k hk), inner, hown, hr.imp_ (fun _ _ hm => hd hm)⟩
end Go.YW.PrintWords
namespace Go.YW.PrintLast
section
variable {ops : Array Oper} {a : Act} {o og : Oper} {g : Nat} {t : Tmp} {u : Bool}
end
end Go.YW.PrintLast
namespace Go.YW.PrintMore
open Go.RowKit Go.YW.PrintWords
namespace Kd
open Go.YW.PrintWords.Kd
end Kd
namespace Kd
open Go.YW.PrintWords.Kd
section
variable {α : Type} {d : Kd α} {e base g N : Nat} {ok : Nat → Prop} {W w1 : World} {u v : Value} {xs : List α}
end
end Kd
theorem yN (k k' : IntKind) (x y : Int) : Builtin.max2 (.int k x) (.int k' y) = pure (.int k (if x < y then y else x)) := by simp only [Builtin.max2, gt_iff_lt]
theorem yO (k k' : IntKind) (x y : Int) : Builtin.min2 (.int k x) (.int k' y) = pure (.int k (if y < x then y else x)) := by simp only [Builtin.min2]
theorem xu (ats : Array TypeId) (ty : TypeId) (a b : Value) : Builtin.max_ ats ty #[a, b] = (Builtin.max2 a b >>= fun s => pure s) := by simp only [Builtin.max_, List.foldlM_cons, List.foldlM_nil]
theorem xw (ats : Array TypeId) (ty : TypeId) (a b : Value) : Builtin.min_ ats ty #[a, b] = (Builtin.min2 a b >>= fun s => pure s) := by simp only [Builtin.min_, List.foldlM_cons, List.foldlM_nil]
theorem yP (ats : Array TypeId) (ty : TypeId) (a b c : Value) : Builtin.max_ ats ty #[a, b, c] = (Builtin.max2 a b >>= fun s => Builtin.max2 s c >>= fun s => pure s) := by simp only [Builtin.max_, List.foldlM_cons, List.foldlM_nil]
theorem yR (ats : Array TypeId) (ty : TypeId) (a b c : Value) : Builtin.min_ ats ty #[a, b, c] = (Builtin.min2 a b >>= fun s => Builtin.min2 s c >>= fun s => pure s) := by simp only [Builtin.min_, List.foldlM_cons, List.foldlM_nil]
theorem xm (ats : Array TypeId) (ty : TypeId) (a b c d : Value) : Builtin.max_ ats ty #[a, b, c, d] = (Builtin.max2 a b >>= fun s => Builtin.max2 s c >>= fun s => Builtin.max2 s d >>= fun s => pure s) := by simp only [Builtin.max_, List.foldlM_cons, List.foldlM_nil]
theorem xq (ats : Array TypeId) (ty : TypeId) (a b c d : Value) : Builtin.min_ ats ty #[a, b, c, d] = (Builtin.min2 a b >>= fun s => Builtin.min2 s c >>= fun s => Builtin.min2 s d >>= fun s => pure s) := by simp only [Builtin.min_, List.foldlM_cons, List.foldlM_nil]
end Go.YW.PrintMore
namespace Go.YW.PrintWords
open Go.RowKit
section
variable {P : Program} {ops : Array Oper} {rest : List Oper} {o : Oper} {a : Act} {Q : Exit → Act → World → Prop} {W : World}
theorem zO {f : FuncId} {as : Array Operand} {ts : Array TypeId} (_ho : o.op = .call { callee := .value (.func f), args := as, argTypes := ts }) (h : wpList P ops Q (o :: rest) a W) : wpList P ops Q (o :: rest) a W := h
theorem yj {b : Builtin} {xs : Array Operand} {ts : Array TypeId} (_ho : o.op = .call { callee := .builtin b, args := xs, argTypes := ts }) (h : wpList P ops Q (o :: rest) a W) : wpList P ops Q (o :: rest) a W := h
end
def mx (a b : Int) : Int := if a < b then b else a
def mn (a b : Int) : Int := if b < a then b else a
theorem qR (w : World) (n : Nat) : w.drewN n = w.drewN n := rfl
theorem cell_grown {W w1 : World} {row : Option Nat} (hg : W.grownBy w1 row) {a : Addr} {v : Value} (h : W.cell? a = some v) (hne : some a.block ≠ row) : w1.cell? a = some v := by
  have := hg.block a.block (World.block_lt_of_cell? W a h) hne
  simpa [World.cell?, this] using h
namespace Kd
section
variable {α : Type} {d : Kd α} {e base : Nat} {ok : Nat → Prop} {W w1 : World} {v : Value} {xs : List α}
end
section
variable {α : Type} {d : Kd α} {e base g n cap : Nat} {ok oki okp : Nat → Prop} {W : World} {xs : List α} {i : Int} {c : List Value}
end
section
variable {α : Type} {d : Kd α} {e base b b' g N : Nat} {ok ok1 : Nat → Prop} {W W2 w1 : World} {u v : Value} {xs ys : List α} {S : Nat → Prop}
end
end Kd
end Go.YW.PrintWords
namespace Go.YW.PrintWords
open Go.RowKit
namespace Kd
def V {α : Type} (d : Kd α) (_e : Nat) (W : World) (_base : Nat) (ok : Nat → Prop) (v : Value) (xs : List α) : Prop := ∃ A c, v = .slice A xs.length c ∧ xs.length ≤ c ∧ F d W ok A xs.length xs
section
variable {α β : Type} {d : Kd α} {e base base' n m c g N' lo hi : Nat} {ok ok' S : Nat → Prop} {w W w1 : World} {A : Option Addr} {ad : Addr} {u v v1 : Value} {xs : List α}
theorem zcB (h : V d e W base ok v xs) (hF : ∀ A, F d W ok A xs.length xs → F d w1 ok' A xs.length xs) : V d e w1 base' ok' v xs := by
  obtain ⟨A, c, hv, hl, hf⟩ := h
  exact ⟨A, c, hv, hl, hF A hf⟩
theorem zd7 (hl : xs.length ≤ c) (hf : F d W ok A xs.length xs) : V d e W base ok (.slice A xs.length c) xs := ⟨A, c, rfl, hl, hf⟩
theorem zbG (h : V d e W base ok v xs) : ∃ A c, v = .slice A xs.length c := by
  obtain ⟨A, c, hv, _⟩ := h
  exact ⟨A, c, hv⟩
theorem zcK (h : V d e W base ok (.slice A n c) xs) : n = xs.length ∧ n ≤ c ∧ F d W ok A xs.length xs := by
  obtain ⟨A', c', hv, hl, hf⟩ := h
  injection hv with ha hn hc
  subst ha; subst hc
  exact ⟨hn, by rw [hn]; exact hl, hf⟩
theorem Jb (h : V d e W base ok (.slice A n c) xs) : n = xs.length ∧ n ≤ c ∧ d.C W A xs.length xs := ⟨(zcK h).1, (zcK h).2.1, XH (zcK h).2.2⟩
theorem R_V (h : d.R e W base ok v xs) : V d e W base' ok v xs := by
  obtain ⟨A, c, rfl⟩ := yc h
  exact ⟨A, c, rfl, (zB h).2.1, R_F h⟩
theorem zat (h : V d e W base ok v xs) (hok : ∀ k, ok k → ok' k) : V d e W base ok' v xs := zcB h (fun _ hf => qU hf hok)
theorem zbn (h : V d e W base ok v xs) (hbase : ∀ k, u.ownBlock = some k → W.heap.size ≤ k) (hb : Below W.heap.size W w1) : V d e w1 base (fun k => ok k ∧ some k ≠ u.ownBlock) v xs := zcB h (fun _ hf => zas hf hbase hb)
theorem zcT {M : Nat → Prop} (h : d.R e w1 W.heap.size ok v xs) (hle : w.heap.size ≤ W.heap.size) (hM : ∀ k, w.heap.size ≤ k → M k) : d.R e w1 W.heap.size (fun k => M k ∧ ok k) v xs := yX (xZ h) (fun k hk => ⟨hM k (Nat.le_trans hle hk.2.1), hk.1⟩)
end
end Kd
end Go.YW.PrintWords
namespace Go.YW.PrintWords
open Go.RowKit
theorem zo (w : World) (a : Addr) (v : Value) : (w.setCell a v).cell? a = (w.cell? a).map fun _ => v := by
  cases h : w.cell? a with
  | some u => rw [World.cell?_setCell_same w a v h]; rfl
  | none =>
    unfold World.cell? at h ⊢
    simp only [World.setCell, Array.getElem?_modify, if_true]
    cases hb : w.heap[a.block]? with
    | none => rfl
    | some o =>
      cases o with
      | cells c e f =>
        rw [hb] at h
        by_cases hs : a.spot.isSome = true
        · simp [hs]
        · simp only [hs, Bool.false_eq_true, if_false] at h
          simp [hs]
          simpa using h
      | _ => rfl
theorem zk (w : World) (n : Nat) (p : Addr) (v : Value) : (w.drewN n).setCell p v = (w.setCell p v).drewN n := rfl
namespace Kd
variable {P : Program} {ops : Array Oper} {rest : List Oper} {o : Oper} {a : Act} {Q : Exit → Act → World → Prop} {α : Type}
theorem zb1 (d : Kd α) {w0 W : World} (base e : Nat) (hgd : o.guard = none) {N : Tmp} (hd : o.dst = some N) (t : TypeId) (x y : Operand) (ho : o.op = .makeSlice t x y) (n : Int) (hx : a.eval x = .int .i64 0) (hy : a.eval y = .int .i64 n)
    (ht : P.underlying t = some (.slice e)) (z : Value) (bytes : Nat) (hinfo : (P.info? e).map (fun i => (i.zero, i.size, i.bytes)) = some (some z, d.sz, bytes)) (hz : z.cells.size = d.sz) (hs0 : 0 < d.sz) (hb0 : 0 < bytes)
    (z0 : α) {ok okp : Nat → Prop} (hzero : d.M W base okp z0 z.cells.toList) (hok : ∀ k, okp k → ok k) (hfresh : ok W.heap.size) (h0 : 0 ≤ n) (hl : n.toNat * bytes ≤ 281474976710656) (HB : Below base w0 W) (hbase : base ≤ W.heap.size)
    (h : ∀ v1 w1, d.R e w1 base ok v1 (List.replicate 0 z0) → Below base w0 w1 → W.grownBy w1 none → (∃ b, v1.ownBlock = some b ∧ W.heap.size ≤ b) → wpList P ops Q rest (a.put o.dst v1) w1) : wpList P ops Q (o :: rest) a W := by
  obtain ⟨m, rfl⟩ := Int.eq_ofNat_of_zero_le h0
  simp only [Int.toNat_natCast] at hl
  obtain ⟨i0, hi, hzz⟩ := Option.map_eq_some_iff.1 hinfo
  simp only [Prod.mk.injEq] at hzz
  obtain ⟨hz0, hz1, hz2⟩ := hzz
  have hm : m ≤ 281474976710656 := Nat.le_trans (Nat.le_mul_of_pos_right _ hb0) hl
  have hr := run_make (P := P) W t e i0 z ht hi hz0 .i64 .i64 0 (m : Int) (by omega) (by omega)
    (by
      have h3 : ((i0.bytes * m : Nat) : Int) ≤ 281474976710656 := by rw [hz2, Nat.mul_comm]; omega
      rwa [Int.natCast_mul] at h3) (by omega)
  simp only [Int.toNat_natCast, Int.toNat_zero] at hr
  have hrun : (execOp a.eval o).run P W = .ok (.value (.slice (some ⟨W.heap.size, 0, none⟩) 0 m)) (W.alloc (.cells (madeCells z.cells (m * i0.size)) e)) := by
    simp [execOp, ho, hx, hy, hr]
  refine ZY hgd hrun (h _ _ ⟨fun k hk => ?_, [], ⟨by simp, .inr ⟨W.heap.size, m, madeCells z.cells (m * i0.size), rfl, hbase, zi W _, Nat.zero_le _, by simp only [maxLen]; omega, by rw [size_madeCells, hz1], by simp⟩⟩, yJ.none _ _⟩ (HB.alloc hbase _) (World.grownBy_alloc W _ none) ⟨W.heap.size, by simp [Value.ownBlock], Nat.le_refl _⟩)
  have : W.heap.size = k := by simpa [Value.ownBlock] using hk
  subst this
  exact hfresh
def Flat {α : Type} (d : Kd α) : Prop := 0 < d.sz ∧ ∀ (w w' : World) (base : Nat) (ok : Nat → Prop) (x : α) (cs : List Value), d.K w x cs → d.M w' base ok x cs
theorem JN (k : IntKind) : Flat (Kd.int k) := ⟨Nat.one_pos, fun _ _ _ _ _ _ h => h⟩
def laid {α : Type} (xs : List α) (off n : Nat) (ys : List α) : List α := xs.take off ++ (ys.take n ++ xs.drop (off + n))
theorem qK {α : Type} (xs : List α) (off n : Nat) (ys : List α) (h : off + n ≤ xs.length) (hn : n ≤ ys.length) : (laid xs off n ys).length = xs.length := by
  simp [laid]; omega
theorem Vk (l news : List Value) (o N : Nat) (h : o + news.length ≤ N) (hN : N ≤ l.length) : (l.take o ++ news ++ l.drop (o + news.length)).take N = (l.take N).take o ++ (news ++ (l.take N).drop (o + news.length)) := by
  rw [List.take_take, Nat.min_eq_left (by omega), List.drop_take, List.append_assoc, List.take_append, List.length_take, Nat.min_eq_left (by omega), List.take_of_length_le (by rw [List.length_take]; omega), List.take_append, List.take_of_length_le (l := news) (by omega)]
  congr 3
  omega
def cnt (a b : Nat) : Int := ((min a b : Nat) : Int)
theorem Xi (d : Kd α) (hf : Flat d) {W : World} {base : Nat} (t1 t2 ty e : TypeId) (i : TypeInfo) (ht : P.underlying t1 = some (.slice e)) (hi : P.info? e = some i) (hsz : i.size = d.sz)
    {g n c off m1 c1 m2 c2 : Nat} {A1 A2 : Option Addr} {xs ys : List α} {ok : Nat → Prop} (HO : d.R e W base ok (.slice (some ⟨g, 0, none⟩) n c) xs)
    (hm : off + m1 ≤ n) (hA : 0 < min m2 m1 → A1 = some ⟨g, off * d.sz, none⟩) (HR : d.C W A2 m2 ys) :
    ∃ w1, (Builtin.copy_ #[t1, t2] ty #[.slice A1 m1 c1, .slice A2 m2 c2]).run P W = .ok (.int .i64 ((min m2 m1 : Nat) : Int)) w1 ∧
      d.R e w1 base ok (.slice (some ⟨g, 0, none⟩) n c) (laid xs off (min m2 m1) ys) ∧ W.grownBy w1 (some g) := by
  have hm2 : ys.length = m2 := HR.1
  obtain ⟨hn, hnc, _⟩ := zB HO
  rcases Nat.eq_zero_or_pos (min m2 m1) with h0 | hp
  · refine ⟨W, ?_, by rw [h0]; simpa [laid] using HO, World.grownBy.refl W _⟩
    have hn0 : Nat.min m2 m1 = 0 := h0
    have hl : ∀ (x : Addr), (loadCells x 0).run P W = .ok #[] W := fun x => by simpa using run_loadCells_list (P := P) W x [] (by simp)
    cases A1 <;> cases A2 <;> simp [Builtin.copy_, run_underlying ht, Builtin.lenOf, Builtin.firstCells, sizeOf, typeInfo, hi, hn0, h0, storeCells, hl, goInt]
  · obtain ⟨k, hk⟩ : ∃ k, k = min m2 m1 := ⟨_, rfl⟩
    rw [← hk] at hp hA ⊢
    have hk1 : k ≤ m1 := by omega
    have hk2 : k ≤ m2 := by omega
    have hA1 := hA hp
    subst hA1
    obtain ⟨hok, inner, hown, hr⟩ := HO
    have hin : inner.length = n * d.sz := by rw [hr.1, hn]
    rcases hown.2 with ⟨hv, _⟩ | ⟨g', cap', cur, hv, hb, hh, _, hcm, hcs, htake⟩
    · cases hv
    injection hv with ha _ hc
    injection ha with ha
    injection ha with hg
    subst hg; subst hc
    rw [← hn] at htake
    obtain ⟨ad, rfl, _⟩ := HR.2.2 (by omega)
    obtain ⟨inn2, hr2, hc2⟩ := xP.inner_ HR
    obtain ⟨news, hnews⟩ : ∃ news, news = inn2.take (k * d.sz) := ⟨_, rfl⟩
    have hrn : yJ (d.K W) d.sz (ys.take k) news := by rw [hnews]; exact Yd hr2 (by omega)
    have hnl : news.length = k * d.sz := by rw [hrn.1, List.length_take, Nat.min_eq_left (by omega)]
    have hnc' : n * d.sz ≤ c * d.sz := Nat.mul_le_mul_right _ hnc
    have hok1 : (off + k) * d.sz ≤ n * d.sz := Nat.mul_le_mul_right _ (by omega)
    have hok2 : (off + k) * d.sz = off * d.sz + k * d.sz := Nat.add_mul _ _ _
    have hcell : ∀ j u, news[j]? = some u → W.cell? (ad.add j) = some u := by
      intro j u hu
      refine hc2 j u ?_
      rw [hnews, List.getElem?_take] at hu
      split at hu
      · exact hu
      · cases hu
    have hone : ∀ u ∈ news, u.oneCell' = true := by
      intro u hu
      obtain ⟨q, hq, rfl⟩ := List.mem_iff_getElem.1 hu
      have hql : q / d.sz < (ys.take k).length := by
        rw [Nat.div_lt_iff_lt_mul hf.1, ← hrn.1]
        exact hq
      refine d.K_one (hrn.2 (q / d.sz) _ (List.getElem?_eq_getElem hql)) _ ?_
      rw [List.mem_iff_getElem?]
      refine ⟨q % d.sz, ?_⟩
      rw [List.getElem?_take, if_pos (Nat.mod_lt _ hf.1), List.getElem?_drop, Nat.mul_comm, Nat.div_add_mod, List.getElem?_eq_getElem hq]
    have hfit : off * d.sz + news.length ≤ cur.size := by omega
    have hl := run_loadCells_list (P := P) W ad news hcell
    have hst := run_storeCells_cells (P := P) g (off * d.sz) news 0 W (fun j hj => by rw [cell_of_row W g _ cur e (0, 0) hh]; simp; omega) (fun j _ => zh hh _) hone
    rw [Nat.add_zero] at hst
    have hmin : Nat.min m2 m1 = k := hk.symm
    have hrun : (Builtin.copy_ #[t1, t2] ty #[.slice (some ⟨g, off * d.sz, none⟩) m1 c1, .slice (some ad) m2 c2]).run P W = .ok (.int .i64 ((k : Nat) : Int)) (W.setCells g (off * d.sz) news) := by
      simp [Builtin.copy_, run_underlying ht, Builtin.lenOf, Builtin.firstCells, sizeOf, typeInfo, hi, hsz, hmin, ← hnl, hl, hst, goInt]
    obtain ⟨cur', h3, h4, h5⟩ := jM news (off * d.sz) W cur hh hfit
    obtain ⟨s1, s2, s3, s4⟩ := jl g news (off * d.sz) W
    have hfar : ∀ k', k' ≠ g → (W.setCells g (off * d.sz) news).heap[k']? = W.heap[k']? := fun k' hk' => jN news _ k' hk'
    have hel : (laid xs off k ys).length = n := by rw [qK _ _ _ _ (by omega) (by omega), hn]
    refine ⟨_, hrun, ⟨hok, inner.take (off * d.sz) ++ (news ++ inner.drop ((off + k) * d.sz)), ⟨?_, .inr ⟨g, c, cur', by rw [hel], hb, h3, by rw [hel]; exact hnc, hcm, by rw [h4, hcs], ?_⟩⟩, ?_⟩, ⟨s1, s2, s3, by rw [s4]; exact Nat.le_refl _, fun k' _ hk' => hfar k' (fun he => hk' (by rw [he]))⟩⟩
    · rw [List.length_append, List.length_append, List.length_take, List.length_drop, hnl, hel]
      omega
    · rw [hel, h5]
      rw [← htake, hok2, ← hnl]
      exact Vk _ _ _ _ (by omega) (by simp; omega)
    · have hmv : ∀ p q, d.M W base (fun k' => ok k' ∧ some k' ≠ (Value.slice (some ⟨g, 0, none⟩) n c).ownBlock) p q → d.M (W.setCells g (off * d.sz) news) base (fun k' => ok k' ∧ some k' ≠ (Value.slice (some ⟨g, 0, none⟩) n c).ownBlock) p q := fun p q hp =>
        hf.2 W _ _ _ p q (d.K_of_M hp)
      exact jB ((Yd hr (by omega)).imp_ hmv) (jB (hrn.imp_ (fun p q hp => hf.2 W _ _ _ p q hp)) ((Wj hr).imp_ hmv))
theorem WQ (d : Kd α) (hf : Flat d) {w0 W : World} (base : Nat) (hgd : o.guard = none) (s x : Operand) (t1 t2 e : TypeId) (ho : o.op = .call { callee := .builtin .copy, args := #[s, x], argTypes := #[t1, t2] })
    (ht : P.underlying t1 = some (.slice e)) (hinfo : (P.info? e).map (·.size) = some d.sz) {g n c m1 c1 m2 c2 : Nat} {A1 A2 : Option Addr} {xs : List α} (off : Nat) (ys : List α) {ok : Nat → Prop}
    (hs : a.eval s = .slice A1 m1 c1) (hx : a.eval x = .slice A2 m2 c2) (HO : d.R e W base ok (.slice (some ⟨g, 0, none⟩) n c) xs)
    (hm : off + m1 ≤ n) (hA : 0 < min m2 m1 → A1 = some ⟨g, off * d.sz, none⟩) (HR : d.C W A2 m2 ys) (HB : Below base w0 W) (hbase : base ≤ W.heap.size)
    (h : ∀ w1, d.R e w1 base ok (.slice (some ⟨g, 0, none⟩) n c) (laid xs off (min m2 m1) ys) → Below base w0 w1 → W.grownBy w1 (some g) → wpList P ops Q rest (a.put o.dst (.int .i64 (cnt m2 m1))) w1) : wpList P ops Q (o :: rest) a W := by
  obtain ⟨i0, hi, hsz⟩ := Option.map_eq_some_iff.1 hinfo
  obtain ⟨w1, hr, h1, h2⟩ := Xi (P := P) d hf t1 t2 o.type e i0 ht hi hsz (c1 := c1) (c2 := c2) HO hm hA HR
  refine wpList_plain hgd fun K hK => ?_
  unfold Oper.wp execOp
  simp only [ho, resolve, invoke, builtin, Sem.run_bind, Sem.run_pure, Result.andThen_ok, List.map_toArray, List.map_cons, List.map_nil, hs, hx, hr]
  exact hK _ _ (h w1 h1 (HB.grown h2 hbase (fun k hk => by injection hk with hk; subst hk; exact kg HO _ (by simp [Value.ownBlock]))) h2)
theorem jX {Kc : Act → World → Prop} (d : Kd α) (hf : Flat d) {w0 W : World} (base : Nat) (hw : Region.wanted o (yielded ops a.tmps) = true) (s x : Operand) (t1 t2 e : TypeId) (ho : o.op = .call { callee := .builtin .copy, args := #[s, x], argTypes := #[t1, t2] })
    (ht : P.underlying t1 = some (.slice e)) (hinfo : (P.info? e).map (·.size) = some d.sz) {g n c m1 c1 m2 c2 : Nat} {A1 A2 : Option Addr} {xs : List α} (off : Nat) (ys : List α) {ok : Nat → Prop}
    (hs : a.eval s = .slice A1 m1 c1) (hx : a.eval x = .slice A2 m2 c2) (HO : d.R e W base ok (.slice (some ⟨g, 0, none⟩) n c) xs)
    (hm : off + m1 ≤ n) (hA : 0 < min m2 m1 → A1 = some ⟨g, off * d.sz, none⟩) (HR : d.C W A2 m2 ys) (HB : Below base w0 W) (hbase : base ≤ W.heap.size)
    (h : ∀ w1, d.R e w1 base ok (.slice (some ⟨g, 0, none⟩) n c) (laid xs off (min m2 m1) ys) → Below base w0 w1 → W.grownBy w1 (some g) → Kc (a.put o.dst (.int .i64 (cnt m2 m1))) w1) :
    if Region.wanted o (yielded ops a.tmps) = true then Oper.wp P o a W Kc Q else Kc (a.put o.dst undef) W := by
  obtain ⟨i0, hi, hsz⟩ := Option.map_eq_some_iff.1 hinfo
  obtain ⟨w1, hr, h1, h2⟩ := Xi (P := P) d hf t1 t2 o.type e i0 ht hi hsz (c1 := c1) (c2 := c2) HO hm hA HR
  rw [if_pos hw]
  unfold Oper.wp execOp
  simp only [ho, resolve, invoke, builtin, Sem.run_bind, Sem.run_pure, Result.andThen_ok, List.map_toArray, List.map_cons, List.map_nil, hs, hx, hr]
  exact (h w1 h1 (HB.grown h2 hbase (fun k hk => by injection hk with hk; subst hk; exact kg HO _ (by simp [Value.ownBlock]))) h2)
theorem rfR {α : Type} {d : Kd α} {e : TypeId} {w : World} {base : Nat} {ok : Nat → Prop} {v : Value} {xs : List α} {g i : Nat} {u : Value} (h : d.R e w base (fun k => ok k ∧ k ≠ g) v xs) : d.R e (w.setCell ⟨g, i, none⟩ u) base (fun k => ok k ∧ k ≠ g) v xs := kw h (fun _ hk => hk.2) u
end Kd
theorem dqK {w w1 : World} {g n : Nat} {o : Obj} (h : ze (w.heap[g]? = some o)) (hq : w.drewN n = w1) : ze (w1.heap[g]? = some o) := ⟨hq ▸ zm h.out n⟩
theorem dqB {b n : Nat} {w w0 w1 : World} (h : ze (Below b w0 w)) (hq : w.drewN n = w1) : ze (Below b w0 w1) := ⟨hq ▸ zq h.out n⟩
theorem XP {w : World} {g : Nat} {t : TypeId} {a0 a1 : Value} (h : w.heap[g]? = some (.cells #[a0, a1] t (0, 0))) : w.cell? ⟨g, 0, none⟩ = some a0 ∧ w.cell? ⟨g, 1, none⟩ = some a1 := ⟨(za h 0).trans rfl, (za h 1).trans rfl⟩
theorem Vu {w : World} {g : Nat} {t : TypeId} {cs : Array Value} (h : w.heap[g]? = some (.cells cs t (0, 0))) : w.frozen? ⟨g, 0, none⟩ = false ∧ w.frozen? ⟨g, 1, none⟩ = false := ⟨zh h 0, zh h 1⟩
theorem zS {w : World} {g : Nat} {t : TypeId} {a0 a1 a2 : Value} (h : w.heap[g]? = some (.cells #[a0, a1, a2] t (0, 0))) : w.cell? ⟨g, 0, none⟩ = some a0 ∧ w.cell? ⟨g, 1, none⟩ = some a1 ∧ w.cell? ⟨g, 2, none⟩ = some a2 := ⟨(za h 0).trans rfl, (za h 1).trans rfl, (za h 2).trans rfl⟩
theorem xD {w : World} {g : Nat} {t : TypeId} {cs : Array Value} (h : w.heap[g]? = some (.cells cs t (0, 0))) : w.frozen? ⟨g, 0, none⟩ = false ∧ w.frozen? ⟨g, 1, none⟩ = false ∧ w.frozen? ⟨g, 2, none⟩ = false := ⟨zh h 0, zh h 1, zh h 2⟩
end Go.YW.PrintWords
