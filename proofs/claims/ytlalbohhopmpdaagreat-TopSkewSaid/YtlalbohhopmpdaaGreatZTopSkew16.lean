/- Words and walks for TopSkew (made of the session's own texts; each part by itself). -/
import Derived.Test.YtlalbohhopmpdaaGreatProg
import Derived.RegionTactic
import Derived.ChangeAlike
import Derived.Outline
import Derived.Lib.Hide
import Derived.WalkSpells
import Derived.Laws.CopyOwn
import Derived.Deep.DeepCutAuto
import Derived.Deep.DeepMust
import Derived.Deep.RegionLaw
import Derived.Test.YtlalbohhopmpdaaGreatZTopSkew6
set_option maxRecDepth 100000
set_option maxHeartbeats 8000000
set_option linter.unusedVariables false
set_option linter.unusedSimpArgs false
namespace Go.Proofs.YtlalbohhopmpdaaGreat.Ring
open Go.RowKit Go.YW.PrintWords Go.YW.PrintLast Go.YW.PrintMore
def bv (l : List Int) : Array Value := (l.map (Value.int .u8)).toArray
theorem Vp (l : List Int) : (bv l).size = l.length := by simp [bv]
theorem zcE (l : List Int) (i : Nat) (x : Int) (h : l[i]? = some x) : (bv l)[i]? = some (.int .u8 x) := by simp [bv, h]
theorem zbI {w : World} {g t : Nat} {l : List Int} (h : w.heap[g]? = some (.cells (bv l) t (0, 0))) (f n : Nat) (hf : f + n ≤ l.length) (hl : l.length ≤ 100000) : Kd.C (Kd.int .u8) w (some ⟨g, f, none⟩) n ((l.drop f).take n) := by
  refine ⟨by simp; omega, by omega, fun _ => ⟨_, rfl, fun j p hp => ?_⟩⟩
  have hj : j < n := by
    have := (List.getElem?_eq_some_iff.1 hp).1
    simp at this
    omega
  rw [List.getElem?_take_of_lt hj, List.getElem?_drop] at hp
  refine ⟨[.int .u8 p], rfl, rfl, fun i u hu => ?_⟩
  have hi : i = 0 := by
    have := (List.getElem?_eq_some_iff.1 hu).1
    simp at this
    omega
  subst hi
  simp only [List.getElem?_cons_zero, Option.some.injEq] at hu
  subst hu
  rw [show (Kd.int .u8).sz = 1 from rfl, Nat.mul_one, Nat.add_zero, show (⟨g, f, none⟩ : Addr).add j = ⟨g, f + j, none⟩ by unfold Addr.add; split <;> simp_all, cell_of_row w g (f + j) _ t (0, 0) h]
  exact zcE l _ _ hp
theorem za9 {w : World} {g base : Nat} {l : List Int} {ok : Nat → Prop} (h : w.heap[g]? = some (.cells (bv l) 5 (0, 0))) (hb : base ≤ g) (hl : l.length ≤ 100000) (hok : ok g) : Kd.R (Kd.int .u8) 5 w base ok (.slice (some ⟨g, 0, none⟩) l.length l.length) l := by
  refine ⟨fun k hk => ?_, l.map (Value.int .u8), ⟨by rw [List.length_map, show (Kd.int .u8).sz = 1 from rfl, Nat.mul_one], .inr ⟨g, l.length, bv l, rfl, hb, h, Nat.le_refl _, by unfold maxLen; omega, by rw [Vp, show (Kd.int .u8).sz = 1 from rfl, Nat.mul_one], ?_⟩⟩, by rw [List.length_map, show (Kd.int .u8).sz = 1 from rfl, Nat.mul_one], fun j p hp => ?_⟩
  · have : g = k := by simpa [Value.ownBlock] using hk
    rw [← this]; exact hok
  · rw [show (Kd.int .u8).sz = 1 from rfl, Nat.mul_one]
    simp only [bv]
    exact List.take_of_length_le (by simp)
  · rw [show (Kd.int .u8).sz = 1 from rfl, Nat.mul_one]
    have hj := (List.getElem?_eq_some_iff.1 hp).1
    have e : ((l.map (Value.int .u8)).drop j).take 1 = [Value.int .u8 p] := by
      rw [List.drop_eq_getElem_cons (by simpa using hj), List.take_succ_cons, List.take_zero, List.getElem_map]
      have := (List.getElem?_eq_some_iff.1 hp).2
      rw [this]
    rw [e]
    rfl
theorem jU (w : World) (A : Option Addr) : Kd.C (Kd.int .u8) w A 0 [] := ⟨rfl, by decide, fun h => absurd h (by omega)⟩
theorem za4 {w : World} {g ty f M : Nat} {bs : List Int} {A : Option Addr} (h : w.heap[g]? = some (.cells (bv bs) ty (0, 0))) (hl : bs.length = M) (hM : M ≤ 65536) (hA : 0 < M - f → A = some ⟨g, f, none⟩) : Kd.C (Kd.int .u8) w A (M - f) (bs.drop f) := by
  rcases Nat.eq_zero_or_pos (M - f) with h0 | h0
  · rw [h0, List.drop_eq_nil_of_le (by omega)]
    exact jU _ _
  · rw [hA h0]
    have := zbI h f (M - f) (by omega) (by omega)
    rwa [List.take_of_length_le (by rw [List.length_drop]; omega)] at this
theorem YR (m : Nat) : madeCells #[Value.int .u8 0] m = bv (List.replicate m 0) := by
  apply Array.toList_inj.1
  rw [toList_madeCells_one]
  simp [bv]
theorem za7 (w : World) (m : Nat) : (w.alloc (.cells (madeCells #[Value.int .u8 0] m) 5)).heap[w.heap.size]? = some (.cells (bv (List.replicate m 0)) 5 (0, 0)) := by
  rw [YR]
  exact zi _ _
theorem Qe (g f n c : Nat) (h : f ≤ n) (hc : n ≤ c) : ∃ A1 : Option Addr, (0 < n - f → A1 = some ⟨g, f, none⟩) ∧ ∀ (W : World), (Instr.sliceAt 59 (.slice (some ⟨g, 0, none⟩) n c) (some (.int .i64 f)) none none).run Tryz.prog W = .ok (.slice A1 (n - f) (c - f)) W := by
  refine ⟨if c = f then some ⟨g, 0, none⟩ else some ⟨g, f, none⟩, fun h => if_neg (by omega), fun W => ?_⟩
  have hu59 := Tryz.underlying59
  by_cases e : c = f
  · simp [Instr.sliceAt, Instr.slice, Instr.sliceBounds, Instr.sliceBound, go_sem, h, e, Addr.add]
  · simp [Instr.sliceAt, Instr.slice, Instr.sliceBounds, Instr.sliceBound, go_sem, h, e, Addr.add]
    exact fun h => h.symm
theorem QV (A : Option Addr) (f n c : Nat) (h : f ≤ n) (hc : n ≤ c) : ∃ A1 : Option Addr, (0 < n - f → A1 = A.map (·.add f)) ∧ ∀ (W : World), (Instr.sliceAt 59 (.slice A n c) (some (.int .i64 f)) none none).run Tryz.prog W = .ok (.slice A1 (n - f) (c - f)) W := by
  refine ⟨if c = f then A else A.map (·.add f), fun h => if_neg (by omega), fun W => ?_⟩
  have hu59 := Tryz.underlying59
  by_cases e : c = f
  · simp [Instr.sliceAt, Instr.slice, Instr.sliceBounds, Instr.sliceBound, go_sem, h, e]
  · simp [Instr.sliceAt, Instr.slice, Instr.sliceBounds, Instr.sliceBound, go_sem, h, e]
theorem WB (A : Option Addr) (f n c : Nat) (h : f ≤ c) (W : World) : (Instr.sliceAt 59 (.slice A n c) none (some (.int .i64 f)) none).run Tryz.prog W = .ok (.slice A f c) W := by
  have hu59 := Tryz.underlying59
  cases A <;> simp [Instr.sliceAt, Instr.slice, Instr.sliceBounds, Instr.sliceBound, go_sem, h, Addr.add]
theorem zco {k : IntKind} {w : World} {A : Option Addr} {n : Nat} {l : List Int} (h : Kd.C (Kd.int k) w A n l) (f m : Nat) (hm : f + m ≤ n) (B : Option Addr) (hB : 0 < m → B = A.map (·.add f)) : Kd.C (Kd.int k) w B m ((l.drop f).take m) := by
  have hl : l.length = n := h.1
  refine ⟨by simp; omega, by have := h.2.1; omega, fun hm0 => ?_⟩
  obtain ⟨ad, rfl, hr⟩ := h.2.2 (by omega)
  rw [hB hm0]
  refine ⟨_, rfl, fun j p hp => ?_⟩
  have hj : j < m := by
    have := (List.getElem?_eq_some_iff.1 hp).1
    simp at this
    omega
  rw [List.getElem?_take_of_lt hj, List.getElem?_drop] at hp
  obtain ⟨c, h1, h2, h3⟩ := hr (f + j) p hp
  refine ⟨c, h1, h2, fun i u hu => ?_⟩
  have := h3 i u hu
  have e : (Kd.int k).sz = 1 := rfl
  rw [e, Nat.mul_one] at this ⊢
  rw [← this, Addr.add_add, Nat.add_assoc]
section
variable {P : Program} {ops : Array Oper} {rest : List Oper} {o : Oper} {a : Act} {Q : Exit → Act → World → Prop}
theorem zaJ (hgd : o.guard = none) (x y : Operand) (ts : Array TypeId) (ho : o.op = .call { callee := .builtin .max, args := #[x, y], argTypes := ts }) (k : IntKind) {W : World} (p q r : Int) (hx : a.eval x = .int k p) (hy : a.eval y = .int k q) (hr : r = max p q)
    (h : wpList P ops Q rest (a.put o.dst (.int k r)) W) : wpList P ops Q (o :: rest) a W := by
  refine wpList_plain hgd fun K hK => ?_
  unfold Oper.wp execOp
  have e : (if p < q then q else p) = r := by rw [hr]; split <;> omega
  simp only [ho, resolve, invoke, builtin, Sem.run_bind, Sem.run_pure, Result.andThen_ok, List.map_toArray, List.map_cons, List.map_nil, hx, hy, xE, yU, e]
  exact hK _ _ h
theorem JZ (hgd : o.guard = none) (x y : Operand) (ts : Array TypeId) (ho : o.op = .call { callee := .builtin .min, args := #[x, y], argTypes := ts }) (k : IntKind) {W : World} (p q r : Int) (hx : a.eval x = .int k p) (hy : a.eval y = .int k q) (hr : r = min p q)
    (h : wpList P ops Q rest (a.put o.dst (.int k r)) W) : wpList P ops Q (o :: rest) a W := by
  refine wpList_plain hgd fun K hK => ?_
  unfold Oper.wp execOp
  have e : (if q < p then q else p) = r := by rw [hr]; split <;> omega
  simp only [ho, resolve, invoke, builtin, Sem.run_bind, Sem.run_pure, Result.andThen_ok, List.map_toArray, List.map_cons, List.map_nil, hx, hy, xC, yT, e]
  exact hK _ _ h
theorem vC (t1 t2 ty : TypeId) (ht : P.underlying t1 = some (.slice 5)) (hinfo : (P.info? 5).map (·.size) = some 1) {W : World} {g off m1 c1 m2 c2 : Nat} {A1 A2 : Option Addr} {bs ys : List Int}
    (hg : W.heap[g]? = some (.cells (bv bs) 5 (0, 0))) (hA : 0 < min m2 m1 → A1 = some ⟨g, off, none⟩) (hm : off + m1 ≤ bs.length) (HR : Kd.C (Kd.int .u8) W A2 m2 ys) :
    ∃ w1, (Builtin.copy_ #[t1, t2] ty #[.slice A1 m1 c1, .slice A2 m2 c2]).run P W = .ok (.int .i64 ((min m2 m1 : Nat) : Int)) w1 ∧ w1.heap[g]? = some (.cells (bv (Kd.laid bs off (min m2 m1) ys)) 5 (0, 0)) ∧ W.grownBy w1 (some g) := by
  have hy : ys.length = m2 := HR.1
  rcases Nat.eq_zero_or_pos (min m2 m1) with h0 | hp
  · refine ⟨W, ?_, by rw [h0]; simpa [Kd.laid] using hg, World.grownBy.refl W _⟩
    have := run_copy_none (P := P) W t1 t2 ty 5 A1 A2 m1 c1 m2 c2 ht hinfo h0
    rw [this, h0]
    rfl
  · obtain ⟨k, hk⟩ : ∃ k, k = min m2 m1 := ⟨_, rfl⟩
    rw [← hk] at hp hA ⊢
    have e1 := hA hp
    subst e1
    obtain ⟨ad, rfl, hr⟩ := HR.2.2 (by omega)
    have hkl : ((ys.take k).map (Value.int .u8)).length = k := by simp; omega
    have hrun := run_copy_row (P := P) W t1 t2 ty 5 g off m1 c1 ad m2 c2 (bv bs) 5 ((ys.take k).map (Value.int .u8)) ht hinfo hg (by rw [hkl]; exact hk) (fun j v hj => by
      have hj' : j < k := by rw [← hkl]; exact (List.getElem?_eq_some_iff.1 hj).1
      rw [List.getElem?_map, List.getElem?_take_of_lt hj'] at hj
      obtain ⟨x, hx, rfl⟩ := Option.map_eq_some_iff.1 hj
      obtain ⟨c, h1, h2, h3⟩ := hr j x hx
      obtain rfl : c = [Value.int .u8 x] := h2
      have := h3 0 _ rfl
      rwa [show (Kd.int .u8).sz = 1 from rfl, Nat.mul_one, Nat.add_zero] at this) (by rw [hkl, Vp]; omega) (fun v hv => by
      obtain ⟨x, _, rfl⟩ := List.mem_map.1 hv
      simp [Value.oneCell'])
    rw [hkl] at hrun
    refine ⟨_, hrun, ?_, ?_⟩
    · rw [setRow_heap _ _ _ _ _ _ hg]
      congr 2
      simp only [bv, Kd.laid, List.map_append, List.map_take, List.map_drop, List.append_assoc]
    · exact ⟨rfl, rfl, rfl, by simp [World.setRow], fun i hi hne => setRow_other _ _ _ _ (fun e => hne (by rw [e]))⟩
theorem zbT (hgd : o.guard = none) (s x : Operand) (t1 t2 : TypeId) (ho : o.op = .call { callee := .builtin .copy, args := #[s, x], argTypes := #[t1, t2] }) (ht : P.underlying t1 = some (.slice 5)) (hinfo : (P.info? 5).map (·.size) = some 1)
    {W : World} (g off m1 c1 m2 c2 : Nat) (A1 A2 : Option Addr) (bs ys : List Int) (N : Nat) (hN : N = min m2 m1) (hs : a.eval s = .slice A1 m1 c1) (hx : a.eval x = .slice A2 m2 c2)
    (hg : W.heap[g]? = some (.cells (bv bs) 5 (0, 0))) (hA : 0 < N → A1 = some ⟨g, off, none⟩) (hm : off + m1 ≤ bs.length) (HR : Kd.C (Kd.int .u8) W A2 m2 ys)
    (h : ∀ w1, Hid (w1.heap[g]? = some (.cells (bv (Kd.laid bs off N ys)) 5 (0, 0))) → W.grownBy w1 (some g) → wpList P ops Q rest (a.put o.dst (.int .i64 (N : Int))) w1) : wpList P ops Q (o :: rest) a W := by
  subst hN
  obtain ⟨w1, hr, h1, h2⟩ := vC (P := P) t1 t2 o.type ht hinfo (c1 := c1) (c2 := c2) hg hA hm HR
  refine wpList_plain hgd fun K hK => ?_
  unfold Oper.wp execOp
  simp only [ho, resolve, invoke, builtin, Sem.run_bind, Sem.run_pure, Result.andThen_ok, List.map_toArray, List.map_cons, List.map_nil, hs, hx, hr]
  exact hK _ _ (h w1 h1 h2)
theorem kP {Kc : Act → World → Prop} (hw : Region.wanted o (yielded ops a.tmps) = true) (s x : Operand) (t1 t2 : TypeId) (ho : o.op = .call { callee := .builtin .copy, args := #[s, x], argTypes := #[t1, t2] }) (ht : P.underlying t1 = some (.slice 5)) (hinfo : (P.info? 5).map (·.size) = some 1)
    {W : World} (g off m1 c1 m2 c2 : Nat) (A1 A2 : Option Addr) (bs ys : List Int) (N : Nat) (hN : N = min m2 m1) (hs : a.eval s = .slice A1 m1 c1) (hx : a.eval x = .slice A2 m2 c2)
    (hg : W.heap[g]? = some (.cells (bv bs) 5 (0, 0))) (hA : 0 < N → A1 = some ⟨g, off, none⟩) (hm : off + m1 ≤ bs.length) (HR : Kd.C (Kd.int .u8) W A2 m2 ys)
    (h : ∀ w1, Hid (w1.heap[g]? = some (.cells (bv (Kd.laid bs off N ys)) 5 (0, 0))) → W.grownBy w1 (some g) → Kc (a.put o.dst (.int .i64 (N : Int))) w1) :
    if Region.wanted o (yielded ops a.tmps) = true then Oper.wp P o a W Kc Q else Kc (a.put o.dst undef) W := by
  subst hN
  obtain ⟨w1, hr, h1, h2⟩ := vC (P := P) t1 t2 o.type ht hinfo (c1 := c1) (c2 := c2) hg hA hm HR
  rw [if_pos hw]
  unfold Oper.wp execOp
  simp only [ho, resolve, invoke, builtin, Sem.run_bind, Sem.run_pure, Result.andThen_ok, List.map_toArray, List.map_cons, List.map_nil, hs, hx, hr]
  exact h w1 h1 h2
end
structure Fr2 (g B : Nat) (w w' : World) : Prop where
  os : w'.os = w.os
  tape : w'.tape = w.tape
  output : w'.output = w.output
  size : w.heap.size ≤ w'.heap.size
  block : ∀ i, i < w.heap.size → i ≠ g → i ≠ B → w'.heap[i]? = w.heap[i]?
structure yw (w : World) (g B M : Nat) (q : List Int) : Prop where
  ex : ∃ (f : Nat) (bs : List Int), w.heap[g]? = some (.cells #[.slice (some ⟨B, 0, none⟩) M M, .int .i64 (f : Int), .int .i64 (q.length : Int)] 186 (0, 0)) ∧
    w.heap[B]? = some (.cells (bv bs) 5 (0, 0)) ∧ bs.length = M ∧ M ≤ 65536 ∧ q.length ≤ M ∧ (f = 0 ∨ f < M) ∧ ∀ i, i < q.length → q[i]? = bs[(f + i) % M]?
theorem yw.ne {w : World} {g B M : Nat} {q : List Int} (h : yw w g B M q) : g ≠ B := by
  obtain ⟨f, bs, hg, hB, _⟩ := h.ex
  rintro rfl
  rw [hg] at hB
  simp at hB
theorem yw.lt {w : World} {g B M : Nat} {q : List Int} (h : yw w g B M q) : g < w.heap.size ∧ B < w.heap.size := by
  obtain ⟨f, bs, hg, hB, _⟩ := h.ex
  exact ⟨zF hg, zF hB⟩
theorem yw.le {w : World} {g B M : Nat} {q : List Int} (h : yw w g B M q) : M ≤ 65536 ∧ q.length ≤ M := by
  obtain ⟨f, bs, _, _, _, h1, h2, _⟩ := h.ex
  exact ⟨h1, h2⟩
theorem yw.keep {w w' : World} {g B M : Nat} {q : List Int} (h : yw w g B M q) (hg : w'.heap[g]? = w.heap[g]?) (hB : w'.heap[B]? = w.heap[B]?) : yw w' g B M q := by
  obtain ⟨f, bs, h1, h2, h3⟩ := h.ex
  exact ⟨f, bs, hg.trans h1, hB.trans h2, h3⟩
theorem yw.below {w w' : World} {g B M : Nat} {q : List Int} (h : yw w g B M q) (hb : Below w.heap.size w w') : yw w' g B M q := h.keep (hb.block g h.lt.1) (hb.block B h.lt.2)
theorem Fr2.trans {g B : Nat} {w w1 w2 : World} (h : Fr2 g B w w1) (k : Fr2 g B w1 w2) : Fr2 g B w w2 := ⟨k.os.trans h.os, k.tape.trans h.tape, k.output.trans h.output, Nat.le_trans h.size k.size, fun i hi h1 h2 => (k.block i (Nat.lt_of_lt_of_le hi h.size) h1 h2).trans (h.block i hi h1 h2)⟩
theorem Fr2.of_below {g B : Nat} {w w1 : World} (h : Below w.heap.size w w1) : Fr2 g B w w1 := ⟨h.os, h.tape, h.output, h.size, fun i hi _ _ => h.block i hi⟩
theorem Fr2.of_grown {g B : Nat} {w w1 : World} {r : Option Nat} (h : w.grownBy w1 r) (hr : r = some g ∨ r = some B ∨ r = none) : Fr2 g B w w1 := ⟨h.os, h.tape, h.output, h.size, fun i hi h1 h2 => h.block i hi (by rcases hr with rfl | rfl | rfl <;> simp <;> assumption)⟩
theorem Fr2.set {g B : Nat} (w : World) (i : Nat) (v : Value) : Fr2 g B w (w.setCell ⟨g, i, none⟩ v) := ⟨rfl, rfl, rfl, by simp [World.setCell], fun j hj h1 h2 => Below.heap_setCell w _ v j h1⟩
theorem VP (bs q : List Int) (f M m d : Nat) (hl : bs.length = M) (hq : q.length ≤ M) (hf : f = 0 ∨ f < M) (hm : m ≤ q.length) (hd : d = min (M - f) m) (hc : ∀ i, i < q.length → q[i]? = bs[(f + i) % M]?) :
    Kd.laid (Kd.laid (List.replicate m 0) 0 d (bs.drop f)) d (m - d) bs = q.take m := by
  have hfM : f ≤ M := by omega
  apply List.ext_getElem?
  intro i
  unfold Kd.laid
  by_cases hi : i < m
  · rw [List.getElem?_take_of_lt hi, hc i (by omega)]
    by_cases h : i < d
    · rw [List.getElem?_append_left (by simp; omega), List.getElem?_take_of_lt h, List.take_zero, List.nil_append, List.getElem?_append_left (by simp; omega), List.getElem?_take_of_lt h, List.getElem?_drop, Nat.mod_eq_of_lt (by omega)]
    · have hmod : (f + i) % M = f + i - M := by rw [Nat.mod_eq_sub_mod (by omega), Nat.mod_eq_of_lt (by omega)]
      rw [List.getElem?_append_right (by simp; omega), List.getElem?_append_left (by simp; omega), hmod]
      simp only [List.length_take, List.length_append, List.length_drop, List.length_replicate, List.length_nil, List.take_zero]
      rw [List.getElem?_take_of_lt (by omega)]
      congr 1
      omega
  · rw [List.getElem?_eq_none (by simp; omega), List.getElem?_eq_none (by simp; omega)]
theorem za6 (bs q l : List Int) (f M m d : Nat) (hl : bs.length = M) (hf : f = 0 ∨ f < M) (hm : m ≤ l.length) (hqm : q.length + m ≤ M) (hm0 : 0 < m) (hd : d = min m (M - (f + q.length) % M)) (hc : ∀ i, i < q.length → q[i]? = bs[(f + i) % M]?) :
    ∀ i, i < (q ++ l.take m).length → (q ++ l.take m)[i]? = (Kd.laid (Kd.laid bs ((f + q.length) % M) d (l.take m)) 0 (m - d) ((l.take m).drop d))[(f + i) % M]? := by
  intro i hi
  have hlt : (l.take m).length = m := by rw [List.length_take]; omega
  have hi' : i < q.length + m := by rw [List.length_append, hlt] at hi; exact hi
  obtain ⟨t, ht⟩ : ∃ t, t = (f + q.length) % M := ⟨_, rfl⟩
  have htM : t < M := by rw [ht]; exact Nat.mod_lt _ (by omega)
  have hfM : f < M := by omega
  rw [← ht] at hd ⊢
  have htv : t = f + q.length ∨ t + M = f + q.length := by
    rcases Nat.lt_or_ge (f + q.length) M with h | h
    · left; rw [ht, Nat.mod_eq_of_lt h]
    · right; rw [ht, Nat.mod_eq_sub_mod h, Nat.mod_eq_of_lt (by omega)]; omega
  obtain ⟨p, hp⟩ : ∃ p, p = (f + i) % M := ⟨_, rfl⟩
  have hpM : p < M := by rw [hp]; exact Nat.mod_lt _ (by omega)
  have hpv : p = f + i ∨ p + M = f + i := by
    rcases Nat.lt_or_ge (f + i) M with h | h
    · left; rw [hp, Nat.mod_eq_of_lt h]
    · right; rw [hp, Nat.mod_eq_sub_mod h, Nat.mod_eq_of_lt (by omega)]; omega
  rw [← hp]
  have hdl : ((l.take m).drop d).length = m - d := by rw [List.length_drop, hlt]
  have hout : ∀ x, (Kd.laid (Kd.laid bs t d (l.take m)) 0 (m - d) ((l.take m).drop d))[x]? = if x < m - d then ((l.take m).drop d)[x]? else (Kd.laid bs t d (l.take m))[x]? := by
    intro x
    unfold Kd.laid
    rw [List.take_zero, List.nil_append]
    by_cases h : x < m - d
    · rw [if_pos h, List.getElem?_append_left (by rw [List.length_take, hdl]; omega), List.getElem?_take_of_lt h]
    · rw [if_neg h, List.getElem?_append_right (by rw [List.length_take, hdl]; omega), List.getElem?_drop, List.length_take, hdl]
      congr 1
      omega
  have hin : ∀ x, (Kd.laid bs t d (l.take m))[x]? = if x < t then bs[x]? else if x < t + d then (l.take m)[x - t]? else bs[x]? := by
    intro x
    unfold Kd.laid
    by_cases h : x < t
    · rw [if_pos h, List.getElem?_append_left (by rw [List.length_take]; omega), List.getElem?_take_of_lt h]
    · rw [if_neg h, List.getElem?_append_right (by rw [List.length_take]; omega), List.length_take, show min t bs.length = t by omega]
      by_cases h2 : x < t + d
      · rw [if_pos h2, List.getElem?_append_left (by rw [List.length_take, hlt]; omega), List.getElem?_take_of_lt (by omega)]
      · rw [if_neg h2, List.getElem?_append_right (by rw [List.length_take, hlt]; omega), List.getElem?_drop, List.length_take, hlt]
        congr 1
        omega
  rw [hout, hin]
  by_cases hiq : i < q.length
  · rw [List.getElem?_append_left hiq, hc i hiq, ← hp]
    rw [if_neg (by omega)]
    by_cases h1 : p < t
    · rw [if_pos h1]
    · rw [if_neg h1, if_neg (by omega)]
  · rw [List.getElem?_append_right (by omega)]
    by_cases h0 : p < m - d
    · rw [if_pos h0, List.getElem?_drop]
      congr 1
      omega
    · rw [if_neg h0, if_neg (by omega), if_pos (by omega)]
      congr 1
      omega
theorem VF (bs q : List Int) (f M m : Nat) (hM : 0 < M) (hc : ∀ i, i < q.length → q[i]? = bs[(f + i) % M]?) : ∀ i, i < (q.drop m).length → (q.drop m)[i]? = bs[((f + m) % M + i) % M]? := by
  intro i hi
  rw [List.length_drop] at hi
  rw [List.getElem?_drop, hc (m + i) (by omega), Nat.mod_add_mod, Nat.add_assoc]
attribute [local go_sem] yU yT xE xC zm zu
theorem zaK (w : World) (g B M : Nat) (q : List Int) (h : yw w g B M q) :
    Calls Tryz.prog 103 #[.pointer (some ⟨g, 0, none⟩)] w fun e w' => e = .returned (.int .i64 (q.length : Int)) ∧ ∃ n, w' = w.drewN n := by
  obtain ⟨f, bs, hg, hB, hl, hM, hq, hf, hc⟩ := h.ex
  obtain ⟨c0, c1, c2⟩ := zV hg
  have hu186 := Tryz.underlying186
  go_enter Tryz.func103, Tryz.ntmps103
  go_wp2_with (fail)
  go_ret
  exact ⟨rfl, 0, rfl⟩
theorem ZP (w : World) (g B M : Nat) (q : List Int) (h : yw w g B M q) :
    Calls Tryz.prog 61 #[.pointer (some ⟨g, 0, none⟩)] w fun e w' => e = .returned (.int .i64 ((M : Int) - q.length)) ∧ ∃ n, w' = w.drewN n := by
  obtain ⟨f, bs, hg, hB, hl, hM, hq, hf, hc⟩ := h.ex
  obtain ⟨c0, c1, c2⟩ := zV hg
  have hu186 := Tryz.underlying186
  have hw : wrap64 ((M : Int) - (q.length : Int)) = (M : Int) - q.length := by unfold wrap64; omega
  go_enter Tryz.func61, Tryz.ntmps61
  go_wp2_with (fail)
  go_quiet (fail)
  go_wp2
  go_ret
  exact ⟨by first | rfl | rw [hw], _, rfl⟩
theorem YY (w : World) (m : Nat) (hm : m ≤ 65536) : yw ((w.alloc (.cells (madeCells #[Value.int .u8 0] m) 5)).alloc (.cells #[.slice (some ⟨w.heap.size, 0, none⟩) m m, .int .i64 0, .int .i64 0] 186)) (w.heap.size + 1) w.heap.size m [] :=
  ⟨0, List.replicate m 0, by
    have := zi (w.alloc (.cells (madeCells #[Value.int .u8 0] m) 5)) (.cells #[.slice (some ⟨w.heap.size, 0, none⟩) m m, .int .i64 0, .int .i64 0] 186)
    rw [show (w.alloc (.cells (madeCells #[Value.int .u8 0] m) 5)).heap.size = w.heap.size + 1 by simp] at this
    exact this, by rw [← YR]; exact zg (zi w _) _, by simp, hm, by simp, .inl rfl, by simp⟩
theorem Ya (w : World) (o o' : Obj) : Below w.heap.size w ((w.alloc o).alloc o') := ((Below.refl _ _).alloc (Nat.le_refl _) _).alloc (by simp) _
theorem XZ (m : Nat) (h2 : m ≤ 65536) (w : World) :
    Calls Tryz.prog 55 #[.int .i64 (m : Int)] w fun e w' => ∃ g B, e = .returned (.pointer (some ⟨g, 0, none⟩)) ∧ yw w' g B m [] ∧ w.heap.size ≤ g ∧ w.heap.size ≤ B ∧ Below w.heap.size w w' := by
  have hu186 := Tryz.underlying186
  have hu59 := Tryz.underlying59
  have hmk := run_make_row' (P := Tryz.prog) 59 5 (.int .u8 0) 1 Tryz.underlying59 (by kernel_rfl) rfl .i64 .i64 m (by omega) (by omega)
  go_enter Tryz.func55, Tryz.ntmps55
  go_wp2_with (fail)
  go_ret
  exact ⟨_, _, rfl, YY w m (by omega), by omega, by omega, Ya _ _ _⟩
theorem Qq (n : Int) (h : n < 0) (w : World) :
    Calls Tryz.prog 55 #[.int .i64 n] w fun e w' => ∃ g B, e = .returned (.pointer (some ⟨g, 0, none⟩)) ∧ yw w' g B 0 [] ∧ w.heap.size ≤ g ∧ w.heap.size ≤ B ∧ Below w.heap.size w w' := by
  have hu186 := Tryz.underlying186
  have hu59 := Tryz.underlying59
  have hmk := run_make_row' (P := Tryz.prog) 59 5 (.int .u8 0) 1 Tryz.underlying59 (by kernel_rfl) rfl .i64 .i64 0 (by omega) (by omega)
  rw [Int.natCast_zero] at hmk
  go_enter Tryz.func55, Tryz.ntmps55
  go_wp2_with (fail)
  go_ret
  exact ⟨_, _, rfl, YY w 0 (by omega), by omega, by omega, Ya _ _ _⟩
theorem Xm (n : Int) (M : Nat) (hM : M = 65536) (h : 65536 < n) (w : World) :
    Calls Tryz.prog 55 #[.int .i64 n] w fun e w' => ∃ g B, e = .returned (.pointer (some ⟨g, 0, none⟩)) ∧ yw w' g B M [] ∧ w.heap.size ≤ g ∧ w.heap.size ≤ B ∧ Below w.heap.size w w' := by
  have hu186 := Tryz.underlying186
  have hu59 := Tryz.underlying59
  have hmk := run_make_row' (P := Tryz.prog) 59 5 (.int .u8 0) 1 Tryz.underlying59 (by kernel_rfl) rfl .i64 .i64 M (by omega) (by omega)
  rw [show ((M : Nat) : Int) = 65536 by omega] at hmk
  have HM := hQ hM
  clear hM
  go_enter Tryz.func55, Tryz.ntmps55
  go_wp2_with (fail)
  go_ret
  have hM := HM.out
  exact ⟨_, _, rfl, YY w M (by omega), by omega, by omega, Ya _ _ _⟩
theorem vD (n : Int) (w : World) :
    Calls Tryz.prog 55 #[.int .i64 n] w fun e w' => ∃ g B, e = .returned (.pointer (some ⟨g, 0, none⟩)) ∧ yw w' g B (min (max n 0) 65536).toNat [] ∧ w.heap.size ≤ g ∧ w.heap.size ≤ B ∧ Below w.heap.size w w' := by
  by_cases h : n < 0
  · rw [show (min (max n 0) 65536).toNat = 0 by omega]
    exact Qq n h w
  · by_cases h2 : 65536 < n
    · rw [show (min (max n 0) 65536).toNat = 65536 by omega]
      exact Xm n 65536 rfl h2 w
    · obtain ⟨m, rfl⟩ := Int.eq_ofNat_of_zero_le (show 0 ≤ n by omega)
      rw [show (min (max (m : Int) 0) 65536).toNat = m by omega]
      exact XZ m (by omega) w
theorem VE (w : World) (g B M : Nat) (q : List Int) (h : yw w g B M q) (n : Int) :
    Calls Tryz.prog 110 #[.pointer (some ⟨g, 0, none⟩), .int .i64 n] w fun e w' => ∃ v, e = .returned v ∧ Kd.R (Kd.int .u8) 5 w' w.heap.size (fun _ => True) v (q.take n.toNat) ∧ Below w.heap.size w w' := by
  have hu186 := Tryz.underlying186
  have hu59 := Tryz.underlying59
  have hgB := h.ne
  obtain ⟨f, bs, hg, hB, hl, hM, hq, hf, hc⟩ := h.ex
  have hlt := h.lt
  obtain ⟨c0, c1, c2⟩ := zV hg
  obtain ⟨m, hm⟩ : ∃ m, m = min n.toNat q.length := ⟨_, rfl⟩
  have hmk := run_make_row' (P := Tryz.prog) 59 5 (.int .u8 0) 1 Tryz.underlying59 (by kernel_rfl) rfl .i64 .i64 m (by omega) (by omega)
  obtain ⟨n1, hn1⟩ : ∃ n1 : Int, n1 = max n 0 := ⟨_, rfl⟩
  have hmn : (m : Int) = min n1 (q.length : Int) := by omega
  obtain ⟨d, hd⟩ : ∃ d, d = min (M - f) m := ⟨_, rfl⟩
  obtain ⟨A1, hA1, hsl⟩ := Qe B f M M (by omega) (Nat.le_refl _)
  obtain ⟨A2, hA2, hsl2⟩ := Qe w.heap.size d m m (by omega) (Nat.le_refl _)
  have N1 := hQ hn1
  have N2 := hQ hmn
  have N3 := hQ hm
  have N4 := hQ hg
  have N5 := hQ hB
  have N6 := hQ hl
  have N7 := hQ hc
  have N8 := hQ hd
  have N9 := hQ hA1
  have N10 := hQ hA2
  clear hn1 hmn hm hg hB hl hc hd hA1 hA2
  go_enter Tryz.func110, Tryz.ntmps110
  go_wp2_with (first | ((with_reducible refine zS (N := 8) rfl ?_); refine zaJ rfl (.tmp 7) (.const (.int .i64 0)) _ rfl .i64 n 0 n1 rfl rfl N1.out ?_) | ((with_reducible refine zS (N := 13) rfl ?_); refine JZ rfl (.tmp 8) (.tmp 12) _ rfl .i64 n1 q.length m rfl rfl N2.out ?_))
  have D1 := hQ (zg N4.out (.cells (madeCells #[Value.int IntKind.u8 0] m) 5))
  have D2 := hQ (zg N5.out (.cells (madeCells #[Value.int IntKind.u8 0] m) 5))
  have D3 := hQ (za7 w m)
  have D4 := hQ ((Below.refl w.heap.size w).alloc (Nat.le_refl _) (.cells (madeCells #[Value.int IntKind.u8 0] m) 5))
  generalize hw1 : w.alloc (.cells (madeCells #[Value.int IntKind.u8 0] m) 5) = w1 at *
  clear hw1
  obtain ⟨e0, e1, e2⟩ := zV D1.out
  go_region_law (refine kP (by rfl) (.tmp 15) (.tmp 24) 59 59 rfl Tryz.underlying59 (by kernel_rfl) w.heap.size 0 m m (M - f) (M - f) _ _ (List.replicate m 0) (bs.drop f) d N8.out rfl rfl D3.out (fun _ => rfl) (by simp) (za4 D2.out N6.out hM N9.out) ?_; intro w2 hH hG; have E3 := hQ hH; have E1 := hQ (yG (w := w1.drew) D1.out hG (by simp; omega)); have E2 := hQ (yG (w := w1.drew) D2.out hG (by simp; omega)); have E4 := hQ (Below.grown (zk D4.out) hG (zk D4.out).size (fun k hk => by injection hk with hk; omega)); clear hH hG D1 D2 D3 D4 e0 e1 e2)
  all_goals
    go_wp2
    obtain ⟨e0, e1, e2⟩ := zV E1.out
    go_region_law (refine kP (by rfl) (.tmp 28) (.tmp 32) 59 59 rfl Tryz.underlying59 (by kernel_rfl) w.heap.size d (m - d) (m - d) M M _ _ (Kd.laid (List.replicate m 0) 0 d (bs.drop f)) bs (m - d) (by have := N3.out; omega) rfl rfl E3.out N10.out (by rw [Kd.qG _ _ _ _ (by simp; have := N8.out; omega) (by simp; have := N8.out; have := N6.out; omega)]; simp; have := N8.out; omega) (za4 (f := 0) E2.out N6.out hM (fun _ => rfl)) ?_; intro w3 hH hG; have F3 := hQ hH; have F4 := hQ (Below.grown (zk E4.out) hG (zk E4.out).size (fun k hk => by injection hk with hk; omega)); clear hH hG E1 E2 E3 E4 e0 e1 e2)
    all_goals
      go_wp2
      go_ret
      have hLL := VP bs q f M m d N6.out hq hf (by have := N3.out; omega) N8.out N7.out
      have hR := F3.out
      rw [hLL] at hR
      have hlm : (q.take m).length = m := by rw [List.length_take]; have := N3.out; omega
      have hqt : q.take n.toNat = q.take m := by rw [N3.out, List.take_eq_take_min]
      have hRR := za9 (base := w.heap.size) (ok := fun _ => True) hR (Nat.le_refl _) (by rw [hlm]; have := N3.out; omega) trivial
      rw [hlm] at hRR
      exact ⟨_, rfl, by rw [hqt]; exact hRR, F4.out⟩
theorem Zo (w : World) (g B M : Nat) (q : List Int) (h : yw w g B M q) (n : Int) (k : Nat) (hk : k = (q.take n.toNat).length) :
    Calls Tryz.prog 110 #[.pointer (some ⟨g, 0, none⟩), .int .i64 n] w fun e w' => ∃ A c, e = .returned (.slice A k c) ∧ Kd.R (Kd.int .u8) 5 w' w.heap.size (fun _ => True) (.slice A k c) (q.take n.toNat) ∧ Below w.heap.size w w' := by
  refine (VE w g B M q h n).mono ?_
  rintro e w1 ⟨v, rfl, hR, hb⟩
  obtain ⟨Ao, co, eo⟩ := Kd.zX hR
  subst eo
  rw [← hk] at hR ⊢
  exact ⟨_, _, rfl, hR, hb⟩
theorem vS (w : World) (g B M : Nat) (q : List Int) (h : yw w g B M q) (n : Int) (k : Nat) (hk : k = (q.take n.toNat).length) :
    Calls Tryz.prog 67 #[.pointer (some ⟨g, 0, none⟩), .int .i64 n] w fun e w' => ∃ A c, e = .returned (.slice A k c) ∧ Kd.R (Kd.int .u8) 5 w' w.heap.size (fun _ => True) (.slice A k c) (q.take n.toNat) ∧ yw w' g B M (q.drop n.toNat) ∧ Fr2 g B w w' := by
  have hu186 := Tryz.underlying186
  have hu59 := Tryz.underlying59
  have H := hQ h
  have hlt := h.lt
  have hle := h.le
  have hgB := h.ne
  have hkq : k ≤ q.length := by rw [hk, List.length_take]; omega
  have HK := hQ hk
  obtain ⟨f, bs, hg, hB, hl, hM, hq, hf, hc⟩ := h.ex
  have HG := hQ hg
  have HBB := hQ hB
  have HL := hQ hl
  have HC := hQ hc
  clear hk h hg hB hl hc
  by_cases hk0 : 0 < k
  · have hd : decide (0 < (k : Int)) = true := decide_eq_true (by omega)
    have R1 := hQ (show ((f : Int) + (k : Int)) % (M : Int) = (((f + k) % M : Nat) : Int) by rw [Int.natCast_emod, Int.natCast_add])
    have R2 := hQ (show (q.length : Int) - (k : Int) = ((q.length - k : Nat) : Int) by omega)
    have hM0 : ¬ (M : Int) = 0 := by omega
    go_enter Tryz.func67, Tryz.ntmps67
    go_wp2_with (go_at_call 110; refine (Zo w g B M q H.out n k HK.out).mono ?_; rintro e w1 ⟨A, c, rfl, hR, hb⟩)
    have HR := hQ hR
    have HB := hQ hb
    have D1 := hQ (zb HG.out hb)
    have D2 := hQ (zb HBB.out hb)
    clear hR hb
    obtain ⟨c0, c1, c2⟩ := zV D1.out
    obtain ⟨f0, f1, f2⟩ := xq D1.out
    go_region
    go_wp2
    go_ret
    have hfin1 := zO (zO (zo D1.out) 1 (.int .i64 (((f : Int) + (k : Int)) % (M : Int))) rfl) 2 (.int .i64 ((q.length : Int) - (k : Int))) rfl
    have hfin2 := yJ (yJ (zo D2.out) (show B ≠ (⟨g, 1, none⟩ : Addr).block from fun e => hgB e.symm) (.int .i64 (((f : Int) + (k : Int)) % (M : Int)))) (show B ≠ (⟨g, 2, none⟩ : Addr).block from fun e => hgB e.symm) (.int .i64 ((q.length : Int) - (k : Int)))
    have hfin3 := Kd.ko (Kd.ko (Kd.jQ (Kd.xW HR.out)) (p := ⟨g, 1, none⟩) (fun k_ h_ => by have := h_.2.1; show k_ ≠ g; omega) (.int .i64 (((f : Int) + (k : Int)) % (M : Int)))) (p := ⟨g, 2, none⟩) (fun k_ h_ => by have := h_.2.1; show k_ ≠ g; omega) (.int .i64 ((q.length : Int) - (k : Int)))
    have hfr : Fr2 g B w ((w1.drew.setCell ⟨g, 1, none⟩ (.int .i64 (((f : Int) + (k : Int)) % (M : Int)))).setCell ⟨g, 2, none⟩ (.int .i64 ((q.length : Int) - (k : Int)))) := (Fr2.of_below HB.out).trans ((Fr2.of_below (zk (Below.refl _ _))).trans ((Fr2.set _ _ _).trans (Fr2.set _ _ _)))
    have hkn : (q.take n.toNat).length = k := HK.out.symm
    rw [List.length_take] at hkn
    have hdr : q.drop n.toNat = q.drop k := by
      rcases Nat.lt_or_ge n.toNat q.length with h0 | h0
      · rw [show n.toNat = k by omega]
      · rw [List.drop_eq_nil_of_le (by omega), List.drop_eq_nil_of_le (by omega)]
    refine ⟨_, _, rfl, Kd.yQ hfin3 (fun _ _ => trivial), ⟨(f + k) % M, bs, ?_, hfin2, HL.out, hM, by rw [List.length_drop]; omega, .inr (Nat.mod_lt _ (by omega)), ?_⟩, hfr⟩
    · rw [hdr, List.length_drop, ← R1.out, ← R2.out]
      exact hfin1
    · rw [hdr]
      exact VF bs q f M k (by omega) HC.out
  · have hd : decide (0 < (k : Int)) = false := decide_eq_false (by omega)
    go_enter Tryz.func67, Tryz.ntmps67
    go_wp2_with (go_at_call 110; refine (Zo w g B M q H.out n k HK.out).mono ?_; rintro e w1 ⟨A, c, rfl, hR, hb⟩)
    go_ret
    refine ⟨_, _, rfl, hR, ?_, Fr2.of_below hb⟩
    have h1 := H.out.below hb
    have h2 := HK.out
    rw [List.length_take] at h2
    rcases Nat.eq_zero_or_pos n.toNat with h0 | h0
    · rw [h0, List.drop_zero]
      exact h1
    · have : q = [] := List.eq_nil_of_length_eq_zero (by omega)
      subst this
      rw [List.drop_nil]
      exact h1
theorem zbV {w w1 : World} {A : Option Addr} {n : Nat} {l : List Int} {B : Nat} (h : Kd.C (Kd.int .u8) w A n l) (hg : w.grownBy w1 (some B)) (hne : ∀ a, A = some a → a.block ≠ B) : Kd.C (Kd.int .u8) w1 A n l := by
  refine ⟨h.1, h.2.1, fun h0 => ?_⟩
  obtain ⟨ad, rfl, hr⟩ := h.2.2 h0
  refine ⟨ad, rfl, fun j p hp => ?_⟩
  obtain ⟨c, h1, h2, h3⟩ := hr j p hp
  refine ⟨c, h1, h2, fun i u hu => ?_⟩
  have hb : (ad.add (j * (Kd.int .u8).sz + i)).block = ad.block := by unfold Addr.add; split <;> rfl
  exact cell_grown hg (h3 i u hu) (fun e => hne ad rfl (by rw [← hb]; injection e))
theorem KO {w : World} {A : Option Addr} {n : Nat} {l : List Int} (h : Kd.C (Kd.int .u8) w A n l) (m : Nat) (hm : m ≤ n) : Kd.C (Kd.int .u8) w A m (l.take m) := by
  have := zco h 0 m (by omega) A (fun _ => by cases A <;> simp [Addr.add])
  rwa [List.drop_zero] at this
theorem zcP {w : World} {A A1 : Option Addr} {n : Nat} {l : List Int} (h : Kd.C (Kd.int .u8) w A n l) (d : Nat) (hd : d ≤ n) (hA : 0 < n - d → A1 = A.map (·.add d)) : Kd.C (Kd.int .u8) w A1 (n - d) (l.drop d) := by
  have := zco h d (n - d) (by omega) A1 hA
  rwa [List.take_of_length_le (by rw [List.length_drop]; have := h.1; omega)] at this
theorem C_cell {w : World} {A : Option Addr} {n : Nat} {l : List Int} (h : Kd.C (Kd.int .u8) w A n l) {g : Nat} (hA : A = some ⟨g, 0, none⟩) (i : Nat) (x : Int) (hi : l[i]? = some x) : w.cell? ⟨g, i, none⟩ = some (.int .u8 x) := by
  have hlt := (List.getElem?_eq_some_iff.1 hi).1
  have hl := h.1
  obtain ⟨ad, e, hr⟩ := h.2.2 (by omega)
  rw [hA] at e
  injection e with e
  subst e
  obtain ⟨c, h1, h2, h3⟩ := hr i x hi
  obtain rfl : c = [Value.int .u8 x] := h2
  have := h3 0 _ rfl
  rw [show (Kd.int .u8).sz = 1 from rfl, Nat.mul_one, Nat.add_zero] at this
  rw [← this]
  congr 1
  unfold Addr.add
  split <;> simp_all
theorem zcI {w : World} {base B n c : Nat} {A : Option Addr} {l : List Int} {ok : Nat → Prop} (h : Kd.R (Kd.int .u8) 5 w base ok (.slice A n c) l) (hB : B < base) : n = l.length ∧ l.length ≤ c ∧ Kd.C (Kd.int .u8) w A l.length l ∧ (0 < l.length → ∀ a, A = some a → a.block ≠ B) := by
  obtain ⟨h1, h2, h3⟩ := Kd.zw h
  subst h1
  refine ⟨rfl, h2, h3, fun h0 a ha => ?_⟩
  obtain ⟨g, cap, e, hg, _, _⟩ := Kd.xX h h0
  injection e with e _ _
  rw [e] at ha
  injection ha with ha
  subst ha
  show g ≠ B
  omega
theorem Jf (w : World) (g B M : Nat) (q : List Int) (h : yw w g B M q) (A0 : Option Addr) (c0 : Nat) (l : List Int) (hr : Kd.C (Kd.int .u8) w A0 l.length l) (hc0 : l.length ≤ c0) (hne : 0 < l.length → ∀ a, A0 = some a → a.block ≠ B) (m : Nat) (hm : m = min l.length (M - q.length)) :
    Calls Tryz.prog 66 #[.pointer (some ⟨g, 0, none⟩), .slice A0 l.length c0] w fun e w' => e = .returned (.int .i64 (m : Int)) ∧ yw w' g B M (q ++ l.take m) ∧ Fr2 g B w w' := by
  have hu186 := Tryz.underlying186
  have hu59 := Tryz.underlying59
  have H := hQ h
  have hlt := h.lt
  have hle := h.le
  have hgB := h.ne
  have HM := hQ hm
  have HR := hQ hr
  have HN := hQ hne
  have hml : m ≤ l.length := by omega
  have hmc : m ≤ c0 := by omega
  have hl9 : l.length ≤ 9223372036854775807 := by have := hr.2.1; omega
  have hqm : q.length + m ≤ M := by omega
  have hch := WB A0 m l.length c0 hmc
  obtain ⟨r, hr_⟩ : ∃ r : Int, r = (M : Int) - q.length := ⟨_, rfl⟩
  have hmin : (m : Int) = min (l.length : Int) r := by omega
  have N1 := hQ hr_
  have N2 := hQ hmin
  obtain ⟨f, bs, hg, hB, hl, hM, hq, hf, hc⟩ := h.ex
  have HG := hQ hg
  have HBB := hQ hB
  have HL := hQ hl
  have HC := hQ hc
  clear hm h hg hB hl hc hr hr_ hne hmin
  by_cases hm0 : m = 0
  · subst hm0
    go_enter Tryz.func66, Tryz.ntmps66
    go_wp2_with (first | (go_at_call 61; refine (ZP w g B M q H.out).mono ?_; rintro e w1 ⟨rfl, nd, rfl⟩; rw [← N1.out]) | ((with_reducible refine zS (N := 12) rfl ?_); refine JZ rfl (.tmp 9) (.tmp 11) _ rfl .i64 l.length r 0 rfl rfl N2.out ?_))
    go_ret
    refine ⟨rfl, ?_, Fr2.of_below (zt (Below.refl _ _) _)⟩
    rw [List.take_zero, List.append_nil]
    exact H.out.below (zt (Below.refl _ _) _)
  · have hd : decide ((m : Int) = 0) = false := decide_eq_false (by omega)
    go_enter Tryz.func66, Tryz.ntmps66
    go_wp2_with (first | (go_at_call 61; refine (ZP w g B M q H.out).mono ?_; rintro e w1 ⟨rfl, nd, rfl⟩; rw [← N1.out]) | ((with_reducible refine zS (N := 12) rfl ?_); refine JZ rfl (.tmp 9) (.tmp 11) _ rfl .i64 l.length r m rfl rfl N2.out ?_))
    have D1 := hQ (zl HG.out nd)
    have D2 := hQ (zl HBB.out nd)
    have D3 := hQ (Kd.yH HR.out nd)
    have D4 : Hid (Fr2 g B w (w.drewN nd)) := Fr2.of_below (zt (Below.refl _ _) _)
    generalize w.drewN nd = w1 at *
    obtain ⟨c0_, c1, c2⟩ := zV D1.out
    have hM0 : ¬ (M : Int) = 0 := by omega
    obtain ⟨t, ht⟩ : ∃ t, t = (f + q.length) % M := ⟨_, rfl⟩
    have htM : t < M := by rw [ht]; exact Nat.mod_lt _ (by omega)
    have hte : ((f : Int) + (q.length : Int)) % (M : Int) = (t : Int) := by rw [ht, Int.natCast_emod, Int.natCast_add]
    obtain ⟨A1, hA1, hsl⟩ := Qe B t M M (by omega) (Nat.le_refl _)
    obtain ⟨d, hd_⟩ : ∃ d, d = min m (M - t) := ⟨_, rfl⟩
    obtain ⟨A2, hA2, hsl2⟩ := QV A0 d m c0 (by omega) hmc
    have T1 := hQ ht
    have T2 := hQ hA1
    have T3 := hQ hd_
    have T4 := hQ hA2
    clear ht hA1 hd_ hA2
    go_quiet (fail)
    rw [hte]
    clear hte
    have D5 := hQ (zl D1.out nq)
    have D6 := hQ (zl D2.out nq)
    have D7 := hQ (Kd.yH D3.out nq)
    have D8 := hQ (D4.out.trans (Fr2.of_below (zt (Below.refl _ _) nq)))
    generalize w1.drewN nq = w2 at *
    clear c0_ c1 c2 D1 D2 D3 D4
    obtain ⟨c0_, c1, c2⟩ := zV D5.out
    go_wp2_with ((with_reducible refine zZ (b := .copy) (xs := #[.tmp 37, .tmp 38]) (ts := #[59, 59]) rfl ?_); refine zbT rfl (.tmp 37) (.tmp 38) 59 59 rfl Tryz.underlying59 (by kernel_rfl) B t (M - t) (M - t) m c0 _ _ bs (l.take m) d T3.out rfl rfl D6.out (fun h => T2.out (by have := T3.out; omega)) (by have := HL.out; omega) (KO D7.out m hml) ?_; intro w3 hH hG)
    have E3 := hQ hH
    have E1 := hQ (yG D5.out hG (by simp; exact hgB))
    have E2 := hQ (zbV (KO D7.out m hml) hG (HN.out (by omega)))
    have E4 := hQ (D8.out.trans (Fr2.of_grown hG (.inr (.inl rfl))))
    clear hH hG D5 D6 D7 D8 c0_ c1 c2
    obtain ⟨c0_, c1, c2⟩ := zV E1.out
    go_region_law (refine kP (by rfl) (.tmp 43) (.tmp 46) 59 59 rfl Tryz.underlying59 (by kernel_rfl) B 0 M M (m - d) (c0 - d) _ _ (Kd.laid bs t d (l.take m)) ((l.take m).drop d) (m - d) (by omega) rfl rfl E3.out (fun _ => rfl) (by rw [Kd.qG _ _ _ _ (by have := T3.out; have := HL.out; omega) (by rw [List.length_take]; have := T3.out; omega)]; have := HL.out; omega) (zcP E2.out d (by have := T3.out; omega) T4.out) ?_; intro w4 hH hG; have F3 := hQ hH; have F1 := hQ (yG (w := w3.drew) E1.out hG (by simp; exact hgB)); have F4 := hQ ((E4.out.trans (Fr2.of_below (zk (Below.refl _ _)))).trans (Fr2.of_grown hG (.inr (.inl rfl)))); clear hH hG E1 E2 E3 E4 c0_ c1 c2)
    all_goals
      obtain ⟨c0_, c1, c2⟩ := zV F1.out
      obtain ⟨f0_, f1_, f2_⟩ := xq F1.out
      go_wp2
      go_ret
      have hfin1 := zO F1.out 2 (.int .i64 ((q.length : Int) + (m : Int))) rfl
      have hfin2 := yJ F3.out (show B ≠ (⟨g, 2, none⟩ : Addr).block from fun e => hgB e.symm) (.int .i64 ((q.length : Int) + (m : Int)))
      have hlm : (q ++ l.take m).length = q.length + m := by rw [List.length_append, List.length_take, Nat.min_eq_left hml]
      refine ⟨rfl, ⟨f, _, ?_, hfin2, ?_, hM, by omega, hf, ?_⟩, F4.out.trans (Fr2.set _ _ _)⟩
      · rw [hlm, Int.natCast_add]
        exact hfin1
      · rw [Kd.qG _ _ _ _ (by rw [Kd.qG _ _ _ _ (by have := T3.out; have := HL.out; omega) (by rw [List.length_take]; have := T3.out; omega)]; have := HL.out; have := T3.out; omega) (by rw [List.length_drop, List.length_take]; have := T3.out; omega), Kd.qG _ _ _ _ (by have := T3.out; have := HL.out; omega) (by rw [List.length_take]; have := T3.out; omega)]
        exact HL.out
      · have := za6 bs q l f M m d HL.out hf hml hqm (by omega) (by rw [← T1.out]; exact T3.out) HC.out
        rw [← T1.out] at this
        exact this
theorem kS (w : World) (g B M : Nat) (q : List Int) (h : yw w g B M q) (A : Option Addr) (n c base : Nat) (l : List Int) (ok : Nat → Prop) (hR : Kd.R (Kd.int .u8) 5 w base ok (.slice A n c) l) (hB : B < base) (m : Nat) (hm : m = min n (M - q.length)) :
    Calls Tryz.prog 66 #[.pointer (some ⟨g, 0, none⟩), .slice A n c] w fun e w' => e = .returned (.int .i64 (m : Int)) ∧ yw w' g B M (q ++ l.take m) ∧ Fr2 g B w w' := by
  obtain ⟨h1, h2, h3, h4⟩ := zcI hR hB
  subst h1
  exact Jf w g B M q h A c l h3 h2 h4 m hm
structure St (w0 : World) (g B M : Nat) (q : List Int) (w : World) : Prop where
  r : yw w g B M q
  b : Below w0.heap.size w0 w
  g0 : w0.heap.size ≤ g
  B0 : w0.heap.size ≤ B
theorem zc9 (w : World) (g B M : Nat) (q : List Int) (h : yw w g B M q) : Calls Tryz.prog 103 #[.pointer (some ⟨g, 0, none⟩)] w fun e w' => e = .returned (.int .i64 (q.length : Int)) ∧ Below w.heap.size w w' := by
  refine (zaK w g B M q h).mono ?_
  rintro e w1 ⟨rfl, nd, rfl⟩
  exact ⟨rfl, zt (Below.refl _ _) nd⟩
theorem Qb (w : World) (g B M : Nat) (q : List Int) (h : yw w g B M q) : Calls Tryz.prog 61 #[.pointer (some ⟨g, 0, none⟩)] w fun e w' => e = .returned (.int .i64 ((M : Int) - q.length)) ∧ Below w.heap.size w w' := by
  refine (ZP w g B M q h).mono ?_
  rintro e w1 ⟨rfl, nd, rfl⟩
  exact ⟨rfl, zt (Below.refl _ _) nd⟩
theorem KD (w : World) (g B M : Nat) (q : List Int) (h : yw w g B M q) (A0 : Option Addr) (n c0 : Nat) (l : List Int) (hn : n = l.length) (hr : Kd.C (Kd.int .u8) w A0 n l) (hc0 : n ≤ c0) (hne : 0 < n → ∀ a, A0 = some a → a.block ≠ B) (m : Nat) (hm : m = min n (M - q.length)) :
    Calls Tryz.prog 66 #[.pointer (some ⟨g, 0, none⟩), .slice A0 n c0] w fun e w' => e = .returned (.int .i64 (m : Int)) ∧ yw w' g B M (q ++ l.take m) ∧ Fr2 g B w w' := by
  subst hn
  exact Jf w g B M q h A0 c0 l hr hc0 hne m hm
theorem zcA {k : IntKind} {w : World} {A : Option Addr} {n : Nat} {l : List Int} (h : Kd.C (Kd.int k) w A n l) (h0 : 0 < n) : ∀ a, A = some a → a.block < w.heap.size := by
  intro a ha
  obtain ⟨ad, e, hx⟩ := Kd.kz h 0 (by omega) (by omega)
  rw [ha] at e
  injection e with e
  subst e
  have := World.block_lt_of_cell? _ _ hx
  have e1 : (a.add (0 : Int).toNat).block = a.block := by unfold Addr.add; split <;> rfl
  rwa [e1] at this
end Go.Proofs.YtlalbohhopmpdaaGreat.Ring
namespace Go.Proofs.YtlalbohhopmpdaaGreat.Ring
open Go.RowKit Go.YW.PrintWords Go.YW.PrintLast Go.YW.PrintMore
attribute [local go_sem] zm zu
structure yM (w : World) (gf g B M : Nat) (q : List Int) (bad : Bool) : Prop where
  f : w.heap[gf]? = some (.cells #[.pointer (some ⟨g, 0, none⟩), .bool bad] 184 (0, 0))
  r : yw w g B M q
theorem yM.below {w w1 : World} {gf g B M : Nat} {q : List Int} {bad : Bool} (h : yM w gf g B M q bad) (hb : Below w.heap.size w w1) : yM w1 gf g B M q bad := ⟨zb h.f hb, h.r.below hb⟩
theorem yM.ne {w : World} {gf g B M : Nat} {q : List Int} {bad : Bool} (h : yM w gf g B M q bad) : gf ≠ g ∧ gf ≠ B := by
  obtain ⟨f, bs, hg, hB, _⟩ := h.r.ex
  have hf := h.f
  constructor
  · rintro rfl
    rw [hf] at hg
    simp at hg
  · rintro rfl
    rw [hf] at hB
    simp at hB
theorem yM.fr {w w1 : World} {gf g B M : Nat} {q q1 : List Int} {bad : Bool} (h : yM w gf g B M q bad) (hr : yw w1 g B M q1) (hf : Fr2 g B w w1) : yM w1 gf g B M q1 bad := ⟨(hf.block gf (zF h.f) h.ne.1 h.ne.2).trans h.f, hr⟩
theorem ZB (n : Int) (M : Nat) (hM : M = (min (max n 260) 65536).toNat) (w : World) :
    Calls Tryz.prog 54 #[.int .i64 n] w fun e w' => ∃ gf g B, e = .returned (.pointer (some ⟨gf, 0, none⟩)) ∧ yM w' gf g B M [] false ∧ w.heap.size ≤ gf ∧ w.heap.size ≤ g ∧ w.heap.size ≤ B ∧ Below w.heap.size w w' := by
  have hu184 := Tryz.underlying184
  obtain ⟨n1, hn1⟩ : ∃ n1 : Int, n1 = max n 260 := ⟨_, rfl⟩
  have N1 := hQ hn1
  have N2 := hQ (show (min (max n1 0) 65536).toNat = M by omega)
  clear hn1 hM
  go_enter Tryz.func54, Tryz.ntmps54
  go_wp2_with ((with_reducible refine zS (N := 4) rfl ?_); refine zaJ rfl (.tmp 3) (.const (.int .i64 260)) _ rfl .i64 n 260 n1 rfl rfl N1.out ?_)
  refine (vD n1 _).mono ?_
  rintro e w1 ⟨g, B, rfl, hr, hg, hB, hb⟩
  rw [N2.out] at hr
  have A1 := hQ hr
  have A2 := hQ hb
  have A3 := hQ (And.intro hg hB)
  clear hr hb hg hB
  go_wp2_with (fail)
  go_ret
  exact ⟨_, g, B, rfl, ⟨zi _ _, A1.out.below ((Below.refl _ _).alloc (Nat.le_refl _) _)⟩, A2.out.size, A3.out.1, A3.out.2, A2.out.alloc A2.out.size _⟩
theorem XN (w : World) (gf g B M : Nat) (q : List Int) (bad : Bool) (h : yM w gf g B M q bad) (A0 : Option Addr) (n c0 : Nat) (l : List Int) (hn : n = l.length) (hr : Kd.C (Kd.int .u8) w A0 n l) (hc0 : n ≤ c0) (hne : 0 < n → ∀ a, A0 = some a → a.block ≠ B) (m : Nat) (hm : m = if bad then 0 else min n (M - q.length)) :
    Calls Tryz.prog 59 #[.pointer (some ⟨gf, 0, none⟩), .slice A0 n c0] w fun e w' => e = .returned (.int .i64 (m : Int)) ∧ yM w' gf g B M (q ++ l.take m) bad ∧ Fr2 g B w w' := by
  obtain ⟨c0_, c1⟩ := XF h.f
  have hu184 := Tryz.underlying184
  have H := hQ h
  have H1 := hQ hr
  have H2 := hQ hne
  have H3 := hQ hm
  have H4 := hQ hn
  clear h hr hne hm hn
  cases bad with
  | true =>
    go_enter Tryz.func59, Tryz.ntmps59
    go_wp2_with (fail)
    go_ret
    have hm := H3.out
    simp only [if_true] at hm
    subst hm
    exact ⟨rfl, by rw [List.take_zero, List.append_nil]; exact H.out, Fr2.of_below (Below.refl _ _)⟩
  | false =>
    go_enter Tryz.func59, Tryz.ntmps59
    go_wp2_with (fail)
    refine (KD w g B M q H.out.r A0 n c0 l H4.out H1.out hc0 H2.out m (by have := H3.out; simpa using this)).mono ?_
    rintro e w1 ⟨rfl, hr, hf⟩
    go_wp2
    go_ret
    exact ⟨rfl, H.out.fr hr hf, hf⟩
theorem zcJ {w : World} {g t : Nat} {x y z a b c : Value} (h : w.heap[g]? = some (.cells #[x, y, z] t (0, 0))) : (((w.setCell ⟨g, 0, none⟩ a).setCell ⟨g, 1, none⟩ b).setCell ⟨g, 2, none⟩ c).heap[g]? = some (.cells #[a, b, c] t (0, 0)) := zO (zO (zO h 0 a rfl) 1 b rfl) 2 c rfl
def yN (C : List Int → Int × Int × List Int × Int × Int) (q : List Int) (bad : Bool) : Int × Int × List Int × Int × Int := if bad then (0, 0, [], 0, 2) else C (q.take 260)
theorem Zj (C : List Int → Int × Int × List Int × Int × Int) (w : World) (gf g B M : Nat) (q : List Int) (bad : Bool) (h : yM w gf g B M q bad)
    (hC : ∀ (W : World) (A : Option Addr) (n c : Nat), n = (q.take 260).length → Kd.C (Kd.int .u8) W A n (q.take 260) → n ≤ c → Calls Tryz.prog 130 #[.slice A n c] W fun e w' => ∃ v : Value, e = .returned (.tuple #[.agg #[.int .i64 (C (q.take 260)).1, .int .i64 (C (q.take 260)).2.1, v], .int .i64 (C (q.take 260)).2.2.2.1, .int .i64 (C (q.take 260)).2.2.2.2]) ∧ Kd.R (Kd.int .u8) 5 w' W.heap.size (fun _ => True) v (C (q.take 260)).2.2.1 ∧ Below W.heap.size W w')
    (t u : Int) (p : List Int) (n e0 : Int) (hf : yN C q bad = (t, u, p, n, e0)) :
    Calls Tryz.prog 102 #[.pointer (some ⟨gf, 0, none⟩)] w fun e w' => ∃ A c, e = .returned (.tuple #[.agg #[.int .i64 t, .int .i64 u, .slice A p.length c], .int .i64 n, .int .i64 e0]) ∧ Kd.R (Kd.int .u8) 5 w' w.heap.size (fun _ => True) (.slice A p.length c) p ∧ Below w.heap.size w w' := by
  obtain ⟨c0_, c1⟩ := XF h.f
  have hgl := zF h.f
  have hu184 := Tryz.underlying184
  have hu141 := Tryz.underlying141
  have hmf : ∀ (fn : Fn) (first cap : Array Value) (w : World), (Instr.makeFunc fn first cap).run Tryz.prog w = .ok (.func fn first cap) w := fun _ _ _ _ => rfl
  have H := hQ h
  have H1 := hQ hC
  clear h hC
  have d0 : (w.alloc (.cells #[.int .i64 0, .int .i64 0, .slice none 0 0] 141)).cell? ⟨gf, 0, none⟩ = some (.pointer (some ⟨g, 0, none⟩)) := (World.cell?_alloc_lt _ _ _ hgl).trans c0_
  have d1 : (w.alloc (.cells #[.int .i64 0, .int .i64 0, .slice none 0 0] 141)).cell? ⟨gf, 1, none⟩ = some (.bool bad) := (World.cell?_alloc_lt _ _ _ hgl).trans c1
  cases bad with
  | true =>
    have HF := hQ hf
    clear hf
    go_enter Tryz.func102, Tryz.ntmps102
    go_wp2_with (fail)
    have hW := zi w (.cells #[.int .i64 0, .int .i64 0, .slice none 0 0] 141 (0, 0))
    have hWB := (Below.refl w.heap.size w).alloc (Nat.le_refl _) (.cells #[.int .i64 0, .int .i64 0, .slice none 0 0] 141)
    have hr0 := (za hW 0).trans rfl
    have hr1 := (za hW 1).trans rfl
    have hr2 := (za hW 2).trans rfl
    have hf := HF.out
    simp only [yN, if_true, Prod.mk.injEq] at hf
    obtain ⟨rfl, rfl, rfl, rfl, rfl⟩ := hf
    exact bodyPost_ret (v := .tuple #[.agg #[.int .i64 0, .int .i64 0, .slice none 0 0], .int .i64 0, .int .i64 2]) (by simp [results, Tryz.results102, go_sem, hr0, hr1, hr2]) rfl ⟨none, 0, rfl, Kd.xM _ _ _ _ _, hWB⟩
  | false =>
    have HF := hQ hf
    obtain ⟨k, hk⟩ : ∃ k, k = (q.take (260 : Int).toNat).length := ⟨_, rfl⟩
    have HK := hQ hk
    clear hf hk
    go_enter Tryz.func102, Tryz.ntmps102
    go_wp2_with (fail)
    refine (Zo _ g B M q (H.out.r.below ((Below.refl _ _).alloc (Nat.le_refl _) _)) 260 k HK.out).mono ?_
    rintro e w1 ⟨A1, c1', rfl, hR, hb⟩
    rw [show (260 : Int).toNat = 260 by omega] at hR
    have B1 := hQ (zb (zi w (.cells #[.int .i64 0, .int .i64 0, .slice none 0 0] 141 (0, 0))) hb)
    have B2 := hQ (((Below.refl w.heap.size w).alloc (Nat.le_refl _) _).trans (hb.mono (show w.heap.size ≤ _ by simp)))
    have B3 := hQ hR
    have B4 := hQ hb.size
    clear hb hR d0 d1
    go_wp2_with (fail)
    have hK := HK.out
    rw [show (260 : Int).toNat = 260 by omega] at hK
    refine (H1.out _ A1 k c1' hK (by have := (Kd.zw B3.out).2.2; rwa [← (Kd.zw B3.out).1] at this) (Kd.zw B3.out).2.1).mono ?_
    have hf := HF.out
    simp only [yN, Bool.false_eq_true, if_false] at hf
    rw [hf]
    rintro e w2 ⟨v, rfl, hR, hb⟩
    obtain ⟨A2, c2, rfl⟩ := Kd.zX hR
    have D1 := hQ (zb B1.out hb)
    have D2 := hQ (ze B2.out B2.out.size hb)
    have D3 := hQ hR
    obtain ⟨e0_, e1_, e2_⟩ := zV D1.out
    obtain ⟨f0_, f1_, f2_⟩ := xq D1.out
    clear B1 B2 B3 hR hb hf hK
    go_wp2_with (fail)
    have hW := zcJ (a := .int .i64 t) (b := .int .i64 u) (c := .slice A2 p.length c2) D1.out
    have hr0 := (za hW 0).trans rfl
    have hr1 := (za hW 1).trans rfl
    have hr2 := (za hW 2).trans rfl
    have hWB : Below w.heap.size w (((w2.setCell ⟨w.heap.size, 0, none⟩ (.int .i64 t)).setCell ⟨w.heap.size, 1, none⟩ (.int .i64 u)).setCell ⟨w.heap.size, 2, none⟩ (.slice A2 p.length c2)) := zP (zP (zP D2.out (Nat.le_refl _)) (Nat.le_refl _)) (Nat.le_refl _)
    have hwl : w.heap.size < w1.heap.size := by have := B4.out; simp at this; omega
    have hR2 := Kd.ko (Kd.ko (Kd.ko (Kd.xW D3.out) (p := ⟨w.heap.size, 0, none⟩) (fun k_ h_ => by have := h_.2.1; show k_ ≠ w.heap.size; omega) (.int .i64 t)) (p := ⟨w.heap.size, 1, none⟩) (fun k_ h_ => by have := h_.2.1; show k_ ≠ w.heap.size; omega) (.int .i64 u)) (p := ⟨w.heap.size, 2, none⟩) (fun k_ h_ => by have := h_.2.1; show k_ ≠ w.heap.size; omega) (.slice A2 p.length c2)
    exact bodyPost_ret (v := .tuple #[.agg #[.int .i64 t, .int .i64 u, .slice A2 p.length c2], .int .i64 n, .int .i64 e0]) (by simp [results, Tryz.results102, go_sem, hr0, hr1, hr2]) rfl ⟨A2, c2, rfl, Kd.yQ (Kd.zU hR2 (by omega)) (fun _ _ => trivial), hWB⟩
structure Fr3 (a b c : Nat) (w w' : World) : Prop where
  os : w'.os = w.os
  tape : w'.tape = w.tape
  output : w'.output = w.output
  size : w.heap.size ≤ w'.heap.size
  block : ∀ i, i < w.heap.size → i ≠ a → i ≠ b → i ≠ c → w'.heap[i]? = w.heap[i]?
theorem Fr3.trans {a b c : Nat} {w w1 w2 : World} (h : Fr3 a b c w w1) (k : Fr3 a b c w1 w2) : Fr3 a b c w w2 := ⟨k.os.trans h.os, k.tape.trans h.tape, k.output.trans h.output, Nat.le_trans h.size k.size, fun i hi h1 h2 h3 => (k.block i (Nat.lt_of_lt_of_le hi h.size) h1 h2 h3).trans (h.block i hi h1 h2 h3)⟩
theorem Fr3.of_below {a b c : Nat} {w w1 : World} (h : Below w.heap.size w w1) : Fr3 a b c w w1 := ⟨h.os, h.tape, h.output, h.size, fun i hi _ _ _ => h.block i hi⟩
theorem Fr3.of_fr2 {a b c : Nat} {w w1 : World} (h : Fr2 b c w w1) : Fr3 a b c w w1 := ⟨h.os, h.tape, h.output, h.size, fun i hi _ h2 h3 => h.block i hi h2 h3⟩
theorem Fr3.set {a b c : Nat} (w : World) (i : Nat) (v : Value) : Fr3 a b c w (w.setCell ⟨a, i, none⟩ v) := ⟨rfl, rfl, rfl, by simp [World.setCell], fun j hj h1 h2 h3 => Below.heap_setCell w _ v j h1⟩
theorem Fr3.new {a b c x : Nat} {w w1 : World} (h : Fr3 a b c w w1) (hx : w.heap.size ≤ x) (i : Nat) (v : Value) : Fr3 a b c w (w1.setCell ⟨x, i, none⟩ v) := ⟨h.os, h.tape, h.output, by have := h.size; simpa [World.setCell] using this, fun j hj h1 h2 h3 => (Below.heap_setCell w1 ⟨x, i, none⟩ v j (by show j ≠ x; omega)).trans (h.block j hj h1 h2 h3)⟩
theorem yM.far {w : World} {gf g B M x i : Nat} {v : Value} {q : List Int} {bad : Bool} (h : yM w gf g B M q bad) (h1 : gf ≠ x) (h2 : g ≠ x) (h3 : B ≠ x) : yM (w.setCell ⟨x, i, none⟩ v) gf g B M q bad := ⟨(Below.heap_setCell w ⟨x, i, none⟩ v gf h1).trans h.f, h.r.keep (Below.heap_setCell w ⟨x, i, none⟩ v g h2) (Below.heap_setCell w ⟨x, i, none⟩ v B h3)⟩
def xZ (C : List Int → Int × Int × List Int × Int × Int) (q : List Int) (bad : Bool) : List Int × Bool := if (yN C q bad).2.2.2.2 = 2 then ([], true) else (q.drop (yN C q bad).2.2.2.1.toNat, bad)
def CutIs (C : List Int → Int × Int × List Int × Int × Int) (q : List Int) : Prop := ∀ (W : World) (A : Option Addr) (n c : Nat), n = (q.take 260).length → Kd.C (Kd.int .u8) W A n (q.take 260) → n ≤ c → Calls Tryz.prog 130 #[.slice A n c] W fun e w' => ∃ v : Value, e = .returned (.tuple #[.agg #[.int .i64 (C (q.take 260)).1, .int .i64 (C (q.take 260)).2.1, v], .int .i64 (C (q.take 260)).2.2.2.1, .int .i64 (C (q.take 260)).2.2.2.2]) ∧ Kd.R (Kd.int .u8) 5 w' W.heap.size (fun _ => True) v (C (q.take 260)).2.2.1 ∧ Below W.heap.size W w'
theorem kJ (C : List Int → Int × Int × List Int × Int × Int) (w : World) (gf g B M : Nat) (q : List Int) (bad : Bool) (h : yM w gf g B M q bad) (hC : CutIs C q) :
    Calls Tryz.prog 60 #[.pointer (some ⟨gf, 0, none⟩)] w fun e w' => e = .returned (.bool (!((yN C q bad).2.2.2.2 == 3))) ∧ Below w.heap.size w w' := by
  have hu141 := Tryz.underlying141
  obtain ⟨t, u, p, n, e0, hf⟩ : ∃ t u p n e0, yN C q bad = (t, u, p, n, e0) := ⟨_, _, _, _, _, rfl⟩
  rw [hf]
  have HF := hQ hf
  clear hf
  go_enter Tryz.func60, Tryz.ntmps60
  go_wp2_with (fail)
  refine (Zj C w gf g B M q bad h hC t u p n e0 HF.out).mono ?_
  rintro e w1 ⟨A, c, rfl, hR, hb⟩
  go_wp2_with (fail)
  go_ret
  exact ⟨rfl, hb.alloc hb.size _⟩
theorem vN (C : List Int → Int × Int × List Int × Int × Int) (w : World) (gf g B M : Nat) (q : List Int) (bad : Bool) (h : yM w gf g B M q bad) (hC : CutIs C q) (t u : Int) (p : List Int) (n e0 : Int) (hf : yN C q bad = (t, u, p, n, e0)) :
    Calls Tryz.prog 62 #[.pointer (some ⟨gf, 0, none⟩)] w fun e w' => ∃ A c, e = .returned (.tuple #[.agg #[.int .i64 t, .int .i64 u, .slice A p.length c], .int .i64 e0]) ∧ Kd.R (Kd.int .u8) 5 w' w.heap.size (fun _ => True) (.slice A p.length c) p ∧ yM w' gf g B M (xZ C q bad).1 (xZ C q bad).2 ∧ Fr3 gf g B w w' := by
  have hu184 := Tryz.underlying184
  have hu141 := Tryz.underlying141
  have hmf : ∀ (fn : Fn) (first cap : Array Value) (w : World), (Instr.makeFunc fn first cap).run Tryz.prog w = .ok (.func fn first cap) w := fun _ _ _ _ => rfl
  have H := hQ h
  have H1 := hQ hC
  have HF := hQ hf
  clear h hC hf
  by_cases he : e0 = 2
  · subst he
    go_enter Tryz.func62, Tryz.ntmps62
    go_wp2_with (fail)
    refine (Zj C _ gf g B M q bad (H.out.below ((Below.refl _ _).alloc (Nat.le_refl _) _)) H1.out t u p n 2 HF.out).mono ?_
    rintro e w1 ⟨A, c, rfl, hR, hb⟩
    have B0 := hQ (zb (zi w (.cells #[.int .i64 0, .int .i64 0, .slice none 0 0] 141 (0, 0))) hb)
    have B1 := hQ ((H.out.below ((Below.refl _ _).alloc (Nat.le_refl _) _)).below hb)
    have B2 := hQ (((Below.refl w.heap.size w).alloc (Nat.le_refl _) _).trans (hb.mono (show w.heap.size ≤ _ by simp)))
    have B3 := hQ hR
    have hwl : w.heap.size < w1.heap.size := by have := hb.size; simp at this; omega
    have HWL := hQ hwl
    clear hR hb hwl
    have B4 := hQ (zg B0.out (.cells #[.int .i64 t, .int .i64 u, .slice A p.length c] 141))
    have B5 := hQ (B1.out.below ((Below.refl _ _).alloc (Nat.le_refl _) (.cells #[.int .i64 t, .int .i64 u, .slice A p.length c] 141)))
    have B6 := hQ (zi w1 (.cells #[.int .i64 t, .int .i64 u, .slice A p.length c] 141 (0, 0)))
    have B7 := hQ (Kd.xO B3.out (.cells #[.int .i64 t, .int .i64 u, .slice A p.length c] 141))
    obtain ⟨c0_, c1⟩ := XF B5.out.f
    obtain ⟨f0_, f1⟩ := Va B5.out.f
    have WS := hQ (show w.heap.size < (w.alloc (.cells #[.int .i64 0, .int .i64 0, .slice none 0 0] 141)).heap.size by simp)
    have WS2 := hQ (show w.heap.size ≤ (w.alloc (.cells #[.int .i64 0, .int .i64 0, .slice none 0 0] 141)).heap.size by simp)
    have NX := hQ (show xZ C q bad = ([], true) by unfold xZ; rw [HF.out]; rfl)
    go_wp2_with (fail)
    refine (zc9 _ g B M q B5.out.r).mono ?_
    rintro e w3 ⟨rfl, hb⟩
    have C0 := hQ (zb B4.out hb)
    have C1 := hQ (B5.out.below hb)
    have C2 := hQ (zb B6.out hb)
    have C3 := hQ (Kd.zy B7.out hb)
    have C4 := hQ (ze (B2.out.alloc B2.out.size (.cells #[.int .i64 t, .int .i64 u, .slice A p.length c] 141)) (by have := HWL.out; simp; omega) hb)
    clear B4 B5 B6 B7 hb c0_ c1 f0_ f1
    obtain ⟨c0_, c1⟩ := XF C1.out.f
    obtain ⟨f0_, f1⟩ := Va C1.out.f
    have hlt := H.out.r.lt
    have hfl := zF H.out.f
    have hne := H.out.ne
    have D0 := yJ C0.out (show w.heap.size ≠ (⟨gf, 1, none⟩ : Addr).block by show w.heap.size ≠ gf; omega) (.bool true)
    have D1 := zO C1.out.f 1 (.bool true) rfl
    have D2 := yJ C2.out (show w1.heap.size ≠ (⟨gf, 1, none⟩ : Addr).block by show w1.heap.size ≠ gf; have := HWL.out; omega) (.bool true)
    have D3 := Kd.ko (Kd.xW C3.out) (p := ⟨gf, 1, none⟩) (fun k_ h_ => by have := h_.2.1; have := WS.out; show k_ ≠ gf; omega) (.bool true)
    have D4 : yw (w3.setCell ⟨gf, 1, none⟩ (.bool true)) g B M q := C1.out.r.keep (Below.heap_setCell w3 ⟨gf, 1, none⟩ _ g (fun e => hne.1 e.symm)) (Below.heap_setCell w3 ⟨gf, 1, none⟩ _ B (fun e => hne.2 e.symm))
    have E0 := hQ D0
    have E1 := hQ D1
    have E2 := hQ D2
    have E3 := hQ D3
    have E4 := hQ D4
    clear D0 D1 D2 D3 D4
    go_wp2_with (fail)
    refine (vS _ g B M q E4.out (q.length : Int) q.length (by rw [Int.toNat_natCast, List.take_length])).mono ?_
    rintro e w4 ⟨At, ct, rfl, _, hr2, hf2⟩
    rw [Int.toNat_natCast, List.drop_length] at hr2
    have K1 := hQ ((hf2.block w.heap.size (zF E0.out) (by omega) (by omega)).trans E0.out)
    have K2 := hQ ((hf2.block w1.heap.size (zF E2.out) (by have := HWL.out; omega) (by have := HWL.out; omega)).trans E2.out)
    have K3 := hQ ((show yM w4 gf g B M [] true from ⟨(hf2.block gf (zF E1.out) hne.1 hne.2).trans E1.out, hr2⟩))
    have K4 := hQ (Kd.ZJ (Kd.xW E3.out) (fun k hk hl => hf2.block k hl (by have := hk.2.1; have := HWL.out; have := WS.out; omega) (by have := hk.2.1; have := HWL.out; have := WS.out; omega)))
    have K5 := hQ ((show Fr3 gf g B w w4 from ((Fr3.of_below C4.out).trans (Fr3.set w3 1 (.bool true))).trans (Fr3.of_fr2 hf2)))
    obtain ⟨x0, x1, x2⟩ := zV K1.out
    obtain ⟨y0, y1, y2⟩ := xq K1.out
    obtain ⟨z0, z1, z2⟩ := zV K2.out
    clear hr2 hf2
    go_wp2_with (fail)
    have hW := zcJ (a := .int .i64 t) (b := .int .i64 u) (c := .slice A p.length c) K1.out
    have hr0 := (za hW 0).trans rfl
    have hr1 := (za hW 1).trans rfl
    have hr2 := (za hW 2).trans rfl
    have hR2 := Kd.ko (Kd.ko (Kd.ko (Kd.yQ K4.out (fun k_ h_ => And.intro h_.1 (show k_ ≠ w.heap.size by have := h_.2.1; have := WS.out; omega))) (p := ⟨w.heap.size, 0, none⟩) (fun k_ h_ => h_.2) (.int .i64 t)) (p := ⟨w.heap.size, 1, none⟩) (fun k_ h_ => h_.2) (.int .i64 u)) (p := ⟨w.heap.size, 2, none⟩) (fun k_ h_ => h_.2) (.slice A p.length c)
    have hfin : Fr3 gf g B w (((w4.setCell ⟨w.heap.size, 0, none⟩ (.int .i64 t)).setCell ⟨w.heap.size, 1, none⟩ (.int .i64 u)).setCell ⟨w.heap.size, 2, none⟩ (.slice A p.length c)) := ((K5.out.new (Nat.le_refl _) 0 (.int .i64 t)).new (Nat.le_refl _) 1 (.int .i64 u)).new (Nat.le_refl _) 2 (.slice A p.length c)
    have hfl2 := ((K3.out.far (i := 0) (v := .int .i64 t) (x := w.heap.size) (by omega) (by omega) (by omega)).far (i := 1) (v := .int .i64 u) (x := w.heap.size) (by omega) (by omega) (by omega)).far (i := 2) (v := .slice A p.length c) (x := w.heap.size) (by omega) (by omega) (by omega)
    exact bodyPost_ret (v := .tuple #[.agg #[.int .i64 t, .int .i64 u, .slice A p.length c], .int .i64 2]) (by simp [results, Tryz.results62, go_sem, hr0, hr1, hr2]) rfl ⟨A, c, rfl, Kd.yQ (Kd.zU hR2 WS2.out) (fun _ _ => trivial), by rw [NX.out]; exact hfl2, hfin⟩
  · have hd : (e0 == 2) = false := beq_eq_false_iff_ne.2 he
    go_enter Tryz.func62, Tryz.ntmps62
    go_wp2_with (fail)
    refine (Zj C _ gf g B M q bad (H.out.below ((Below.refl _ _).alloc (Nat.le_refl _) _)) H1.out t u p n e0 HF.out).mono ?_
    rintro e w1 ⟨A, c, rfl, hR, hb⟩
    have B0 := hQ (zb (zi w (.cells #[.int .i64 0, .int .i64 0, .slice none 0 0] 141 (0, 0))) hb)
    have B1 := hQ ((H.out.below ((Below.refl _ _).alloc (Nat.le_refl _) _)).below hb)
    have B2 := hQ (((Below.refl w.heap.size w).alloc (Nat.le_refl _) _).trans (hb.mono (show w.heap.size ≤ _ by simp)))
    have B3 := hQ hR
    have hwl : w.heap.size < w1.heap.size := by have := hb.size; simp at this; omega
    have HWL := hQ hwl
    clear hR hb hwl
    have B4 := hQ (zg B0.out (.cells #[.int .i64 t, .int .i64 u, .slice A p.length c] 141))
    have B5 := hQ (B1.out.below ((Below.refl _ _).alloc (Nat.le_refl _) (.cells #[.int .i64 t, .int .i64 u, .slice A p.length c] 141)))
    have B6 := hQ (zi w1 (.cells #[.int .i64 t, .int .i64 u, .slice A p.length c] 141 (0, 0)))
    have B7 := hQ (Kd.xO B3.out (.cells #[.int .i64 t, .int .i64 u, .slice A p.length c] 141))
    obtain ⟨c0_, c1⟩ := XF B5.out.f
    obtain ⟨f0_, f1⟩ := Va B5.out.f
    have WS := hQ (show w.heap.size < (w.alloc (.cells #[.int .i64 0, .int .i64 0, .slice none 0 0] 141)).heap.size by simp)
    have WS2 := hQ (show w.heap.size ≤ (w.alloc (.cells #[.int .i64 0, .int .i64 0, .slice none 0 0] 141)).heap.size by simp)
    have NX := hQ (show xZ C q bad = (q.drop n.toNat, bad) by unfold xZ; rw [HF.out]; exact if_neg he)
    have hlt := H.out.r.lt
    have hfl := zF H.out.f
    have hne := H.out.ne
    have C4 := hQ (B2.out.alloc B2.out.size (.cells #[.int .i64 t, .int .i64 u, .slice A p.length c] 141))
    go_wp2_with (fail)
    refine (vS _ g B M q B5.out.r n _ rfl).mono ?_
    rintro e w4 ⟨At, ct, rfl, _, hr2, hf2⟩
    have K1 := hQ ((hf2.block w.heap.size (zF B4.out) (by omega) (by omega)).trans B4.out)
    have K2 := hQ ((hf2.block w1.heap.size (zF B6.out) (by have := HWL.out; omega) (by have := HWL.out; omega)).trans B6.out)
    have K3 := hQ (B5.out.fr hr2 hf2)
    have K4 := hQ (Kd.ZJ (Kd.xW B7.out) (fun k hk hl => hf2.block k hl (by have := hk.2.1; have := HWL.out; have := WS.out; omega) (by have := hk.2.1; have := HWL.out; have := WS.out; omega)))
    have K5 := hQ ((show Fr3 gf g B w w4 from (Fr3.of_below C4.out).trans (Fr3.of_fr2 hf2)))
    obtain ⟨x0, x1, x2⟩ := zV K1.out
    obtain ⟨y0, y1, y2⟩ := xq K1.out
    obtain ⟨z0, z1, z2⟩ := zV K2.out
    clear hr2 hf2
    go_wp2_with (fail)
    have hW := zcJ (a := .int .i64 t) (b := .int .i64 u) (c := .slice A p.length c) K1.out
    have hr0 := (za hW 0).trans rfl
    have hr1 := (za hW 1).trans rfl
    have hr2 := (za hW 2).trans rfl
    have hR2 := Kd.ko (Kd.ko (Kd.ko (Kd.yQ K4.out (fun k_ h_ => And.intro h_.1 (show k_ ≠ w.heap.size by have := h_.2.1; have := WS.out; omega))) (p := ⟨w.heap.size, 0, none⟩) (fun k_ h_ => h_.2) (.int .i64 t)) (p := ⟨w.heap.size, 1, none⟩) (fun k_ h_ => h_.2) (.int .i64 u)) (p := ⟨w.heap.size, 2, none⟩) (fun k_ h_ => h_.2) (.slice A p.length c)
    have hfin : Fr3 gf g B w (((w4.setCell ⟨w.heap.size, 0, none⟩ (.int .i64 t)).setCell ⟨w.heap.size, 1, none⟩ (.int .i64 u)).setCell ⟨w.heap.size, 2, none⟩ (.slice A p.length c)) := ((K5.out.new (Nat.le_refl _) 0 (.int .i64 t)).new (Nat.le_refl _) 1 (.int .i64 u)).new (Nat.le_refl _) 2 (.slice A p.length c)
    have hfl2 := ((K3.out.far (i := 0) (v := .int .i64 t) (x := w.heap.size) (by omega) (by omega) (by omega)).far (i := 1) (v := .int .i64 u) (x := w.heap.size) (by omega) (by omega) (by omega)).far (i := 2) (v := .slice A p.length c) (x := w.heap.size) (by omega) (by omega) (by omega)
    exact bodyPost_ret (v := .tuple #[.agg #[.int .i64 t, .int .i64 u, .slice A p.length c], .int .i64 e0]) (by simp [results, Tryz.results62, go_sem, hr0, hr1, hr2]) rfl ⟨A, c, rfl, Kd.yQ (Kd.zU hR2 WS2.out) (fun _ _ => trivial), by rw [NX.out]; exact hfl2, hfin⟩
end Go.Proofs.YtlalbohhopmpdaaGreat.Ring
namespace Go.Proofs.YtlalbohhopmpdaaGreat.Top
open Go.RowKit Go.Proofs.YtlalbohhopmpdaaGreat.PTop Go.YW.PrintWords Go.YW.PrintLast Go.YW.PrintMore Go.Proofs.YtlalbohhopmpdaaGreat.Num
attribute [local go_sem] zm zu yU yT xE xC
theorem zdt : ∀ (W : World), (Instr.makeMap 116 none).run Tryz.prog W = .ok (.map (some W.heap.size)) (W.alloc (.map #[] 0)) := fun W => by simp [Instr.makeMap, go_sem, Tryz.underlying116]
theorem zdz : ∀ (W : World), (Instr.makeMap 180 none).run Tryz.prog W = .ok (.map (some W.heap.size)) (W.alloc (.map #[] 0)) := fun W => by simp [Instr.makeMap, go_sem, Tryz.underlying180]
theorem zdo : ∀ (W : World), (Instr.makeMap 123 none).run Tryz.prog W = .ok (.map (some W.heap.size)) (W.alloc (.map #[] 0)) := fun W => by simp [Instr.makeMap, go_sem, Tryz.underlying123]
theorem zdu : ∀ (W : World), (Instr.makeMap 131 none).run Tryz.prog W = .ok (.map (some W.heap.size)) (W.alloc (.map #[] 0)) := fun W => by simp [Instr.makeMap, go_sem, Tryz.underlying131]
theorem zdM : ∀ (a b : Int) (m : Option Nat) (W : World), (Instr.build 118 #[(0, .int .u64 a), (2, .int .i64 b), (3, .map m)]).run Tryz.prog W = .ok (.agg #[.int .u64 a, .int .i64 0, .int .i64 b, .map m]) W := fun a b m W => by kernel_rfl
theorem zdH : ∀ (a : Int) (m : Option Nat) (W : World), (Instr.build 182 #[(0, .int .i64 a), (1, .map m)]).run Tryz.prog W = .ok (.agg #[.int .i64 a, .map m]) W := fun a m W => by kernel_rfl
theorem zdJ : ∀ (p : Option Addr) (a b c : Int) (m : Option Nat) (W : World), (Instr.build 125 #[(0, .pointer p), (1, .int .i64 a), (2, .int .i64 b), (3, .int .i64 c), (4, .map m)]).run Tryz.prog W = .ok (.agg #[.pointer p, .int .i64 a, .int .i64 b, .int .i64 c, .map m]) W := fun p a b c m W => by kernel_rfl
theorem zdK : ∀ (p q : Option Addr) (a : Int) (m : Option Nat) (W : World), (Instr.build 133 #[(0, .pointer p), (1, .int .i64 a), (2, .pointer q), (3, .map m)]).run Tryz.prog W = .ok (.agg #[.pointer p, .int .i64 a, .pointer q, .map m]) W := fun p q a m W => by kernel_rfl
theorem vR (w : World) (o o' : Obj) : Below w.heap.size w ((w.alloc o).alloc o') := ((Below.refl _ _).alloc (Nat.le_refl _) _).alloc (by simp) _
theorem yx (w : World) (o o' : Obj) : ((w.alloc o).alloc o').heap[w.heap.size + 1]? = some o' := by
  have h := zi (w.alloc o) o'
  rw [show (w.alloc o).heap.size = w.heap.size + 1 by simp] at h
  exact h
theorem VO (w : World) (B : Nat) (hB : B ≤ w.heap.size) :
    Calls Tryz.prog 27 #[.int .u64 0, .int .i64 100000] w fun e w' => e = .returned (.pointer (some ⟨w.heap.size + 1, 0, none⟩)) ∧ yP w' B 0 (w.heap.size + 1) w.heap.size ⟨0, 0, 100000, fun _ => []⟩ ∧ w'.heap.size = w.heap.size + 2 ∧ Below w.heap.size w w' := by
  have hm := zdt
  have hb := zdM
  go_enter Tryz.func27, Tryz.ntmps27
  go_wp2
  go_ret
  refine ⟨rfl, ⟨yx _ _ _, ⟨0, _, (qa.made zaf w).below ((Below.refl _ _).alloc (Nat.le_refl _) _), fun _ _ => rfl, fun k v h => (by cases h), fun k k' v v' _ h => (by cases h)⟩, by omega, hB⟩, by simp, vR _ _ _⟩
theorem Wi (w : World) (B : Nat) (hB : B ≤ w.heap.size) :
    Calls Tryz.prog 52 #[.int .i64 1000] w fun e w' => e = .returned (.pointer (some ⟨w.heap.size + 1, 0, none⟩)) ∧ qi w' B 0 (w.heap.size + 1) w.heap.size 1000 ∧ w'.heap.size = w.heap.size + 2 ∧ Below w.heap.size w w' := by
  have hm := zdz
  have hb := zdH
  go_enter Tryz.func52, Tryz.ntmps52
  go_wp2
  go_ret
  refine ⟨rfl, ⟨yx _ _ _, ⟨0, _, (qa.made JQ w).below ((Below.refl _ _).alloc (Nat.le_refl _) _)⟩, by omega, hB⟩, by simp, vR _ _ _⟩
theorem zb9 (w : World) (B st : Nat) (hB : B ≤ w.heap.size) :
    Calls Tryz.prog 26 #[.pointer (some ⟨st, 0, none⟩), .int .i64 8, .int .i64 500, .int .i64 2000] w fun e w' => e = .returned (.pointer (some ⟨w.heap.size + 1, 0, none⟩)) ∧ qW w' B 0 (w.heap.size + 1) st w.heap.size 8 500 2000 0 (fun _ => none) ∧ w'.heap.size = w.heap.size + 2 ∧ Below w.heap.size w w' := by
  have hm := zdo
  have hb := zdJ
  go_enter Tryz.func26, Tryz.ntmps26
  go_wp2
  go_ret
  refine ⟨rfl, ⟨yx _ _ _, ⟨_, (qa.made JQ w).below ((Below.refl _ _).alloc (Nat.le_refl _) _), fun _ _ => rfl, fun k x h => (by cases h)⟩, by omega, hB⟩, by simp, vR _ _ _⟩
theorem zat (w : World) (B en : Nat) (hB : B ≤ w.heap.size) :
    Calls Tryz.prog 29 #[.pointer (some ⟨en, 0, none⟩), .int .i64 1000] w fun e w' => e = .returned (.pointer (some ⟨w.heap.size + 3, 0, none⟩)) ∧ qi w' B 0 (w.heap.size + 1) w.heap.size 1000 ∧ ja w' B 0 (w.heap.size + 3) en (w.heap.size + 1) (w.heap.size + 2) 1000 (fun _ => none) ∧ w'.heap.size = w.heap.size + 4 ∧ Below w.heap.size w w' := by
  have hm := zdu
  have hb' := zdK
  go_enter Tryz.func29, Tryz.ntmps29
  go_wp2_with (fail)
  refine (Wi w B hB).mono ?_
  rintro e w1 ⟨rfl, hk, hs, hb⟩
  have HK := hQ hk
  have HS := hQ hs
  have HB := hQ hb
  clear hk hs hb
  go_wp2
  go_ret
  have hsz := HS.out
  have hsz1 := HB.out.size
  have h1 := vR w1 (.map #[] 0) (.cells #[.pointer (some ⟨en, 0, none⟩), .int .i64 1000, .pointer (some ⟨w.heap.size + 1, 0, none⟩), .map (some w1.heap.size)] 133)
  have h2 := yx w1 (.map #[] 0) (.cells #[.pointer (some ⟨en, 0, none⟩), .int .i64 1000, .pointer (some ⟨w.heap.size + 1, 0, none⟩), .map (some w1.heap.size)] 133)
  have h3 := (qa.made JQ w1).below ((Below.refl _ _).alloc (Nat.le_refl _) (.cells #[.pointer (some ⟨en, 0, none⟩), .int .i64 1000, .pointer (some ⟨w.heap.size + 1, 0, none⟩), .map (some w1.heap.size)] 133))
  have e2 : w.heap.size + 2 = w1.heap.size := hsz.symm
  have e3 : w.heap.size + 3 = w1.heap.size + 1 := by omega
  rw [e2, e3]
  exact ⟨by simp [go_sem], HK.out.below h1, ⟨h2, ⟨0, h3⟩, by omega, by omega⟩, by simp; omega, ze HB.out HB.out.size h1⟩
def vH (k : Nat) : Array Value := #[.int .i64 8] ++ (Array.replicate k (Value.int .i64 1)) ++ Array.replicate (32 - k) (Value.int .i64 0)
structure kG (w : World) (dk k : Nat) : Prop where
  blk : w.heap[dk]? = some (.cells (vH k) 128 (0, 0))
  le : k ≤ 3
theorem kG.below {w w1 : World} {dk k : Nat} (h : kG w dk k) (hb : Below w.heap.size w w1) : kG w1 dk k := ⟨zb h.blk hb, h.le⟩
theorem YB (k : Nat) (hk : k ≤ 3) (i : Nat) (hi : i < 8) : (vH k)[0]? = some (.int .i64 8) ∧ (vH k)[1 + i]? = some (.int .i64 (if i < k then 1 else 0)) := by
  obtain rfl | rfl | rfl | rfl : k = 0 ∨ k = 1 ∨ k = 2 ∨ k = 3 := by omega
  all_goals
    obtain rfl | rfl | rfl | rfl | rfl | rfl | rfl | rfl : i = 0 ∨ i = 1 ∨ i = 2 ∨ i = 3 ∨ i = 4 ∨ i = 5 ∨ i = 6 ∨ i = 7 := by omega
    all_goals exact ⟨rfl, rfl⟩
theorem Ko (w : World) (dk k : Nat) (h : kG w dk k) (c : Nat) (hc : c < 8) :
    Calls Tryz.prog 101 #[.pointer (some ⟨dk, 0, none⟩), .int .i64 (c : Int)] w fun e w' => e = .returned (.int .i64 (if c < k then 1 else 0)) ∧ Below w.heap.size w w' := by
  have hu128 := Tryz.underlying128
  have hu126 := Tryz.underlying126
  have h0 : w.cell? ⟨dk, 0, none⟩ = some (.int .i64 8) := (za h.blk 0).trans (YB k h.le 0 (by omega)).1
  have h1 : w.cell? ⟨dk, 1 + c, none⟩ = some (.int .i64 (if c < k then 1 else 0)) := (za h.blk (1 + c)).trans (YB k h.le c hc).2
  obtain ⟨v, hv⟩ : ∃ v : Int, v = if c < k then 1 else 0 := ⟨_, rfl⟩
  rw [← hv] at h1 ⊢
  clear hv h
  obtain rfl | rfl | rfl | rfl | rfl | rfl | rfl | rfl : c = 0 ∨ c = 1 ∨ c = 2 ∨ c = 3 ∨ c = 4 ∨ c = 5 ∨ c = 6 ∨ c = 7 := by omega
  all_goals
    clear hc
    go_enter Tryz.func101, Tryz.ntmps101
    go_wp2
    go_ret
    exact ⟨rfl, Below.refl _ _⟩
theorem zaj (w : World) :
    Calls Tryz.prog 28 #[.int .i64 8] w fun e w' => e = .returned (.pointer (some ⟨w.heap.size, 0, none⟩)) ∧ kG w' w.heap.size 0 ∧ w'.heap.size = w.heap.size + 1 ∧ Below w.heap.size w w' := by
  have hb : ∀ (W : World), (Instr.build 128 #[(0, .int .i64 8)]).run Tryz.prog W = .ok (.agg (vH 0)) W := fun W => by kernel_rfl
  go_enter Tryz.func28, Tryz.ntmps28
  go_wp2
  go_ret
  exact ⟨rfl, ⟨zi _ _, by omega⟩, by simp, (Below.refl _ _).alloc (Nat.le_refl _) _⟩
end Go.Proofs.YtlalbohhopmpdaaGreat.Top
