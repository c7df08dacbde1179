/- Words and walks for FlowPlays (made of the session's own texts; each part by itself). -/
import Derived.Test.YtakiojmjalbfpaaProg
import Derived.RegionTactic
import Derived.ChangeAlike
import Derived.Outline
import Derived.Lib.Hide
import Derived.WalkSpells
import Derived.Laws.CopyOwn
import Derived.Test.YtakiojmjalbfpaaZFlowPlays3
set_option linter.unusedVariables false
set_option linter.unusedSimpArgs false
namespace Go.Proofs.Ytakiojmjalbfpaa.Ring
open Go.RowKit Go.Proofs.YtakiojmjalbfpaaW.PrintWords Go.Proofs.YtakiojmjalbfpaaW.PrintLast Go.Proofs.YtakiojmjalbfpaaW.PrintMore
def bv (l : List Int) : Array Value := (l.map (Value.int .u8)).toArray
theorem bv_size (l : List Int) : (bv l).size = l.length := by simp [bv]
theorem bv_get (l : List Int) (i : Nat) (x : Int) (h : l[i]? = some x) : (bv l)[i]? = some (.int .u8 x) := by simp [bv, h]
theorem C_bytes {w : World} {g t : Nat} {l : List Int} (h : w.heap[g]? = some (.cells (bv l) t (0, 0))) (f n : Nat) (hf : f + n ≤ l.length) (hl : l.length ≤ 100000) : Kd.C (Kd.int .u8) w (some ⟨g, f, none⟩) n ((l.drop f).take n) := by
  refine ⟨by simp; omega, by omega, fun _ => ⟨_, rfl, fun j p hp => ?_⟩⟩
  have hj : j < n := by
    have := (List.getElem?_eq_some_iff.1 hp).1
    simp at this
    omega
  rw [List.getElem?_take_of_lt hj, List.getElem?_drop] at hp
  refine ⟨[.int .u8 p], rfl, rfl, fun i u hu => ?_⟩
  have hi : i = 0 := by
    have := (List.getElem?_eq_some_iff.1 hu).1
    simp at this
    omega
  subst hi
  simp only [List.getElem?_cons_zero, Option.some.injEq] at hu
  subst hu
  rw [show (Kd.int .u8).sz = 1 from rfl, Nat.mul_one, Nat.add_zero, show (⟨g, f, none⟩ : Addr).add j = ⟨g, f + j, none⟩ by unfold Addr.add; split <;> simp_all, cell_of_row w g (f + j) _ t (0, 0) h]
  exact bv_get l _ _ hp
theorem R_bytes {w : World} {g base : Nat} {l : List Int} {ok : Nat → Prop} (h : w.heap[g]? = some (.cells (bv l) 5 (0, 0))) (hb : base ≤ g) (hl : l.length ≤ 100000) (hok : ok g) : Kd.R (Kd.int .u8) 5 w base ok (.slice (some ⟨g, 0, none⟩) l.length l.length) l := by
  refine ⟨fun k hk => ?_, l.map (Value.int .u8), ⟨by rw [List.length_map, show (Kd.int .u8).sz = 1 from rfl, Nat.mul_one], .inr ⟨g, l.length, bv l, rfl, hb, h, Nat.le_refl _, by unfold maxLen; omega, by rw [bv_size, show (Kd.int .u8).sz = 1 from rfl, Nat.mul_one], ?_⟩⟩, by rw [List.length_map, show (Kd.int .u8).sz = 1 from rfl, Nat.mul_one], fun j p hp => ?_⟩
  · have : g = k := by simpa [Value.ownBlock] using hk
    rw [← this]; exact hok
  · rw [show (Kd.int .u8).sz = 1 from rfl, Nat.mul_one]
    simp only [bv]
    exact List.take_of_length_le (by simp)
  · rw [show (Kd.int .u8).sz = 1 from rfl, Nat.mul_one]
    have hj := (List.getElem?_eq_some_iff.1 hp).1
    have e : ((l.map (Value.int .u8)).drop j).take 1 = [Value.int .u8 p] := by
      rw [List.drop_eq_getElem_cons (by simpa using hj), List.take_succ_cons, List.take_zero, List.getElem_map]
      have := (List.getElem?_eq_some_iff.1 hp).2
      rw [this]
    rw [e]
    rfl
theorem C_nil (w : World) (A : Option Addr) : Kd.C (Kd.int .u8) w A 0 [] := ⟨rfl, by decide, fun h => absurd h (by omega)⟩
theorem C_tail {w : World} {g ty f M : Nat} {bs : List Int} {A : Option Addr} (h : w.heap[g]? = some (.cells (bv bs) ty (0, 0))) (hl : bs.length = M) (hM : M ≤ 65536) (hA : 0 < M - f → A = some ⟨g, f, none⟩) : Kd.C (Kd.int .u8) w A (M - f) (bs.drop f) := by
  rcases Nat.eq_zero_or_pos (M - f) with h0 | h0
  · rw [h0, List.drop_eq_nil_of_le (by omega)]
    exact C_nil _ _
  · rw [hA h0]
    have := C_bytes h f (M - f) (by omega) (by omega)
    rwa [List.take_of_length_le (by rw [List.length_drop]; omega)] at this
theorem made_bytes (m : Nat) : madeCells #[Value.int .u8 0] m = bv (List.replicate m 0) := by
  apply Array.toList_inj.1
  rw [toList_madeCells_one]
  simp [bv]
theorem made_blk (w : World) (m : Nat) : (w.alloc (.cells (madeCells #[Value.int .u8 0] m) 5)).heap[w.heap.size]? = some (.cells (bv (List.replicate m 0)) 5 (0, 0)) := by
  rw [made_bytes]
  exact blk_new _ _
theorem cut_low (g f n c : Nat) (h : f ≤ n) (hc : n ≤ c) : ∃ A1 : Option Addr, (0 < n - f → A1 = some ⟨g, f, none⟩) ∧ ∀ (W : World), (Instr.sliceAt 30 (.slice (some ⟨g, 0, none⟩) n c) (some (.int .i64 f)) none none).run Try.prog W = .ok (.slice A1 (n - f) (c - f)) W := by
  refine ⟨if c = f then some ⟨g, 0, none⟩ else some ⟨g, f, none⟩, fun h => if_neg (by omega), fun W => ?_⟩
  have hu30 := Try.underlying30
  by_cases e : c = f
  · simp [Instr.sliceAt, Instr.slice, Instr.sliceBounds, Instr.sliceBound, go_sem, h, e, Addr.add]
  · simp [Instr.sliceAt, Instr.slice, Instr.sliceBounds, Instr.sliceBound, go_sem, h, e, Addr.add]
    exact fun h => h.symm
theorem cut_low_any (A : Option Addr) (f n c : Nat) (h : f ≤ n) (hc : n ≤ c) : ∃ A1 : Option Addr, (0 < n - f → A1 = A.map (·.add f)) ∧ ∀ (W : World), (Instr.sliceAt 30 (.slice A n c) (some (.int .i64 f)) none none).run Try.prog W = .ok (.slice A1 (n - f) (c - f)) W := by
  refine ⟨if c = f then A else A.map (·.add f), fun h => if_neg (by omega), fun W => ?_⟩
  have hu30 := Try.underlying30
  by_cases e : c = f
  · simp [Instr.sliceAt, Instr.slice, Instr.sliceBounds, Instr.sliceBound, go_sem, h, e]
  · simp [Instr.sliceAt, Instr.slice, Instr.sliceBounds, Instr.sliceBound, go_sem, h, e]
theorem cut_high (A : Option Addr) (f n c : Nat) (h : f ≤ c) (W : World) : (Instr.sliceAt 30 (.slice A n c) none (some (.int .i64 f)) none).run Try.prog W = .ok (.slice A f c) W := by
  have hu30 := Try.underlying30
  cases A <;> simp [Instr.sliceAt, Instr.slice, Instr.sliceBounds, Instr.sliceBound, go_sem, h, Addr.add]
theorem C_cut {k : IntKind} {w : World} {A : Option Addr} {n : Nat} {l : List Int} (h : Kd.C (Kd.int k) w A n l) (f m : Nat) (hm : f + m ≤ n) (B : Option Addr) (hB : 0 < m → B = A.map (·.add f)) : Kd.C (Kd.int k) w B m ((l.drop f).take m) := by
  have hl : l.length = n := h.1
  refine ⟨by simp; omega, by have := h.2.1; omega, fun hm0 => ?_⟩
  obtain ⟨ad, rfl, hr⟩ := h.2.2 (by omega)
  rw [hB hm0]
  refine ⟨_, rfl, fun j p hp => ?_⟩
  have hj : j < m := by
    have := (List.getElem?_eq_some_iff.1 hp).1
    simp at this
    omega
  rw [List.getElem?_take_of_lt hj, List.getElem?_drop] at hp
  obtain ⟨c, h1, h2, h3⟩ := hr (f + j) p hp
  refine ⟨c, h1, h2, fun i u hu => ?_⟩
  have := h3 i u hu
  have e : (Kd.int k).sz = 1 := rfl
  rw [e, Nat.mul_one] at this ⊢
  rw [← this, Addr.add_add, Nat.add_assoc]
section
variable {P : Program} {ops : Array Oper} {rest : List Oper} {o : Oper} {a : Act} {Q : Exit → Act → World → Prop}
theorem wl_max (hgd : o.guard = none) (x y : Operand) (ts : Array TypeId) (ho : o.op = .call { callee := .builtin .max, args := #[x, y], argTypes := ts }) (k : IntKind) {W : World} (p q r : Int) (hx : a.eval x = .int k p) (hy : a.eval y = .int k q) (hr : r = max p q)
    (h : wpList P ops Q rest (a.put o.dst (.int k r)) W) : wpList P ops Q (o :: rest) a W := by
  refine wpList_plain hgd fun K hK => ?_
  unfold Oper.wp execOp
  have e : (if p < q then q else p) = r := by rw [hr]; split <;> omega
  simp only [ho, resolve, invoke, builtin, Sem.run_bind, Sem.run_pure, Result.andThen_ok, List.map_toArray, List.map_cons, List.map_nil, hx, hy, max_two, max2_int, e]
  exact hK _ _ h
theorem wl_min (hgd : o.guard = none) (x y : Operand) (ts : Array TypeId) (ho : o.op = .call { callee := .builtin .min, args := #[x, y], argTypes := ts }) (k : IntKind) {W : World} (p q r : Int) (hx : a.eval x = .int k p) (hy : a.eval y = .int k q) (hr : r = min p q)
    (h : wpList P ops Q rest (a.put o.dst (.int k r)) W) : wpList P ops Q (o :: rest) a W := by
  refine wpList_plain hgd fun K hK => ?_
  unfold Oper.wp execOp
  have e : (if q < p then q else p) = r := by rw [hr]; split <;> omega
  simp only [ho, resolve, invoke, builtin, Sem.run_bind, Sem.run_pure, Result.andThen_ok, List.map_toArray, List.map_cons, List.map_nil, hx, hy, min_two, min2_int, e]
  exact hK _ _ h
theorem run_copy_bytes (t1 t2 ty : TypeId) (ht : P.underlying t1 = some (.slice 5)) (hinfo : (P.info? 5).map (·.size) = some 1) {W : World} {g off m1 c1 m2 c2 : Nat} {A1 A2 : Option Addr} {bs ys : List Int}
    (hg : W.heap[g]? = some (.cells (bv bs) 5 (0, 0))) (hA : 0 < min m2 m1 → A1 = some ⟨g, off, none⟩) (hm : off + m1 ≤ bs.length) (HR : Kd.C (Kd.int .u8) W A2 m2 ys) :
    ∃ w1, (Builtin.copy_ #[t1, t2] ty #[.slice A1 m1 c1, .slice A2 m2 c2]).run P W = .ok (.int .i64 ((min m2 m1 : Nat) : Int)) w1 ∧ w1.heap[g]? = some (.cells (bv (Kd.laid bs off (min m2 m1) ys)) 5 (0, 0)) ∧ W.grownBy w1 (some g) := by
  have hy : ys.length = m2 := HR.1
  rcases Nat.eq_zero_or_pos (min m2 m1) with h0 | hp
  · refine ⟨W, ?_, by rw [h0]; simpa [Kd.laid] using hg, World.grownBy.refl W _⟩
    have := run_copy_none (P := P) W t1 t2 ty 5 A1 A2 m1 c1 m2 c2 ht hinfo h0
    rw [this, h0]
    rfl
  · obtain ⟨k, hk⟩ : ∃ k, k = min m2 m1 := ⟨_, rfl⟩
    rw [← hk] at hp hA ⊢
    have e1 := hA hp
    subst e1
    obtain ⟨ad, rfl, hr⟩ := HR.2.2 (by omega)
    have hkl : ((ys.take k).map (Value.int .u8)).length = k := by simp; omega
    have hrun := run_copy_row (P := P) W t1 t2 ty 5 g off m1 c1 ad m2 c2 (bv bs) 5 ((ys.take k).map (Value.int .u8)) ht hinfo hg (by rw [hkl]; exact hk) (fun j v hj => by
      have hj' : j < k := by rw [← hkl]; exact (List.getElem?_eq_some_iff.1 hj).1
      rw [List.getElem?_map, List.getElem?_take_of_lt hj'] at hj
      obtain ⟨x, hx, rfl⟩ := Option.map_eq_some_iff.1 hj
      obtain ⟨c, h1, h2, h3⟩ := hr j x hx
      obtain rfl : c = [Value.int .u8 x] := h2
      have := h3 0 _ rfl
      rwa [show (Kd.int .u8).sz = 1 from rfl, Nat.mul_one, Nat.add_zero] at this) (by rw [hkl, bv_size]; omega) (fun v hv => by
      obtain ⟨x, _, rfl⟩ := List.mem_map.1 hv
      simp [Value.oneCell'])
    rw [hkl] at hrun
    refine ⟨_, hrun, ?_, ?_⟩
    · rw [setRow_heap _ _ _ _ _ _ hg]
      congr 2
      simp only [bv, Kd.laid, List.map_append, List.map_take, List.map_drop, List.append_assoc]
    · exact ⟨rfl, rfl, rfl, by simp [World.setRow], fun i hi hne => setRow_other _ _ _ _ (fun e => hne (by rw [e]))⟩
theorem wl_copy (hgd : o.guard = none) (s x : Operand) (t1 t2 : TypeId) (ho : o.op = .call { callee := .builtin .copy, args := #[s, x], argTypes := #[t1, t2] }) (ht : P.underlying t1 = some (.slice 5)) (hinfo : (P.info? 5).map (·.size) = some 1)
    {W : World} (g off m1 c1 m2 c2 : Nat) (A1 A2 : Option Addr) (bs ys : List Int) (N : Nat) (hN : N = min m2 m1) (hs : a.eval s = .slice A1 m1 c1) (hx : a.eval x = .slice A2 m2 c2)
    (hg : W.heap[g]? = some (.cells (bv bs) 5 (0, 0))) (hA : 0 < N → A1 = some ⟨g, off, none⟩) (hm : off + m1 ≤ bs.length) (HR : Kd.C (Kd.int .u8) W A2 m2 ys)
    (h : ∀ w1, Hid (w1.heap[g]? = some (.cells (bv (Kd.laid bs off N ys)) 5 (0, 0))) → W.grownBy w1 (some g) → wpList P ops Q rest (a.put o.dst (.int .i64 (N : Int))) w1) : wpList P ops Q (o :: rest) a W := by
  subst hN
  obtain ⟨w1, hr, h1, h2⟩ := run_copy_bytes (P := P) t1 t2 o.type ht hinfo (c1 := c1) (c2 := c2) hg hA hm HR
  refine wpList_plain hgd fun K hK => ?_
  unfold Oper.wp execOp
  simp only [ho, resolve, invoke, builtin, Sem.run_bind, Sem.run_pure, Result.andThen_ok, List.map_toArray, List.map_cons, List.map_nil, hs, hx, hr]
  exact hK _ _ (h w1 h1 h2)
theorem wl_copy_step {Kc : Act → World → Prop} (hw : Region.wanted o (yielded ops a.tmps) = true) (s x : Operand) (t1 t2 : TypeId) (ho : o.op = .call { callee := .builtin .copy, args := #[s, x], argTypes := #[t1, t2] }) (ht : P.underlying t1 = some (.slice 5)) (hinfo : (P.info? 5).map (·.size) = some 1)
    {W : World} (g off m1 c1 m2 c2 : Nat) (A1 A2 : Option Addr) (bs ys : List Int) (N : Nat) (hN : N = min m2 m1) (hs : a.eval s = .slice A1 m1 c1) (hx : a.eval x = .slice A2 m2 c2)
    (hg : W.heap[g]? = some (.cells (bv bs) 5 (0, 0))) (hA : 0 < N → A1 = some ⟨g, off, none⟩) (hm : off + m1 ≤ bs.length) (HR : Kd.C (Kd.int .u8) W A2 m2 ys)
    (h : ∀ w1, Hid (w1.heap[g]? = some (.cells (bv (Kd.laid bs off N ys)) 5 (0, 0))) → W.grownBy w1 (some g) → Kc (a.put o.dst (.int .i64 (N : Int))) w1) :
    if Region.wanted o (yielded ops a.tmps) = true then Oper.wp P o a W Kc Q else Kc (a.put o.dst undef) W := by
  subst hN
  obtain ⟨w1, hr, h1, h2⟩ := run_copy_bytes (P := P) t1 t2 o.type ht hinfo (c1 := c1) (c2 := c2) hg hA hm HR
  rw [if_pos hw]
  unfold Oper.wp execOp
  simp only [ho, resolve, invoke, builtin, Sem.run_bind, Sem.run_pure, Result.andThen_ok, List.map_toArray, List.map_cons, List.map_nil, hs, hx, hr]
  exact h w1 h1 h2
end
structure Fr2 (g B : Nat) (w w' : World) : Prop where
  os : w'.os = w.os
  tape : w'.tape = w.tape
  output : w'.output = w.output
  size : w.heap.size ≤ w'.heap.size
  block : ∀ i, i < w.heap.size → i ≠ g → i ≠ B → w'.heap[i]? = w.heap[i]?
structure RingW (w : World) (g B M : Nat) (q : List Int) : Prop where
  ex : ∃ (f : Nat) (bs : List Int), w.heap[g]? = some (.cells #[.slice (some ⟨B, 0, none⟩) M M, .int .i64 (f : Int), .int .i64 (q.length : Int)] 76 (0, 0)) ∧
    w.heap[B]? = some (.cells (bv bs) 5 (0, 0)) ∧ bs.length = M ∧ M ≤ 65536 ∧ q.length ≤ M ∧ (f = 0 ∨ f < M) ∧ ∀ i, i < q.length → q[i]? = bs[(f + i) % M]?
theorem RingW.ne {w : World} {g B M : Nat} {q : List Int} (h : RingW w g B M q) : g ≠ B := by
  obtain ⟨f, bs, hg, hB, _⟩ := h.ex
  rintro rfl
  rw [hg] at hB
  simp at hB
theorem RingW.lt {w : World} {g B M : Nat} {q : List Int} (h : RingW w g B M q) : g < w.heap.size ∧ B < w.heap.size := by
  obtain ⟨f, bs, hg, hB, _⟩ := h.ex
  exact ⟨blk_lt hg, blk_lt hB⟩
theorem RingW.le {w : World} {g B M : Nat} {q : List Int} (h : RingW w g B M q) : M ≤ 65536 ∧ q.length ≤ M := by
  obtain ⟨f, bs, _, _, _, h1, h2, _⟩ := h.ex
  exact ⟨h1, h2⟩
theorem RingW.keep {w w' : World} {g B M : Nat} {q : List Int} (h : RingW w g B M q) (hg : w'.heap[g]? = w.heap[g]?) (hB : w'.heap[B]? = w.heap[B]?) : RingW w' g B M q := by
  obtain ⟨f, bs, h1, h2, h3⟩ := h.ex
  exact ⟨f, bs, hg.trans h1, hB.trans h2, h3⟩
theorem RingW.below {w w' : World} {g B M : Nat} {q : List Int} (h : RingW w g B M q) (hb : Below w.heap.size w w') : RingW w' g B M q := h.keep (hb.block g h.lt.1) (hb.block B h.lt.2)
theorem RingW.grown {w w' : World} {g B M : Nat} {q : List Int} (h : RingW w g B M q) {r : Option Nat} (hb : w.grownBy w' r) (h1 : some g ≠ r) (h2 : some B ≠ r) : RingW w' g B M q := h.keep (hb.block g h.lt.1 h1) (hb.block B h.lt.2 h2)
theorem RingW.fr {w w' : World} {g B M g' B' : Nat} {q : List Int} (h : RingW w g B M q) (hb : Fr2 g' B' w w') (h1 : g ≠ g') (h2 : g ≠ B') (h3 : B ≠ g') (h4 : B ≠ B') : RingW w' g B M q := h.keep (hb.block g h.lt.1 h1 h2) (hb.block B h.lt.2 h3 h4)
theorem Fr2.trans {g B : Nat} {w w1 w2 : World} (h : Fr2 g B w w1) (k : Fr2 g B w1 w2) : Fr2 g B w w2 := ⟨k.os.trans h.os, k.tape.trans h.tape, k.output.trans h.output, Nat.le_trans h.size k.size, fun i hi h1 h2 => (k.block i (Nat.lt_of_lt_of_le hi h.size) h1 h2).trans (h.block i hi h1 h2)⟩
theorem Fr2.of_below {g B : Nat} {w w1 : World} (h : Below w.heap.size w w1) : Fr2 g B w w1 := ⟨h.os, h.tape, h.output, h.size, fun i hi _ _ => h.block i hi⟩
theorem Fr2.of_grown {g B : Nat} {w w1 : World} {r : Option Nat} (h : w.grownBy w1 r) (hr : r = some g ∨ r = some B ∨ r = none) : Fr2 g B w w1 := ⟨h.os, h.tape, h.output, h.size, fun i hi h1 h2 => h.block i hi (by rcases hr with rfl | rfl | rfl <;> simp <;> assumption)⟩
theorem Fr2.set {g B : Nat} (w : World) (i : Nat) (v : Value) : Fr2 g B w (w.setCell ⟨g, i, none⟩ v) := ⟨rfl, rfl, rfl, by simp [World.setCell], fun j hj h1 h2 => Below.heap_setCell w _ v j h1⟩
theorem Fr2.below {g B b : Nat} {w0 w w1 : World} (h : Fr2 g B w w1) (hb : Below b w0 w) (hs : b ≤ w.heap.size) (hg : b ≤ g) (hB : b ≤ B) : Below b w0 w1 := hb.trans ⟨h.os, h.tape, h.output, h.size, fun i hi => h.block i (by omega) (by omega) (by omega)⟩
theorem look_list (bs q : List Int) (f M m d : Nat) (hl : bs.length = M) (hq : q.length ≤ M) (hf : f = 0 ∨ f < M) (hm : m ≤ q.length) (hd : d = min (M - f) m) (hc : ∀ i, i < q.length → q[i]? = bs[(f + i) % M]?) :
    Kd.laid (Kd.laid (List.replicate m 0) 0 d (bs.drop f)) d (m - d) bs = q.take m := by
  have hfM : f ≤ M := by omega
  apply List.ext_getElem?
  intro i
  unfold Kd.laid
  by_cases hi : i < m
  · rw [List.getElem?_take_of_lt hi, hc i (by omega)]
    by_cases h : i < d
    · rw [List.getElem?_append_left (by simp; omega), List.getElem?_take_of_lt h, List.take_zero, List.nil_append, List.getElem?_append_left (by simp; omega), List.getElem?_take_of_lt h, List.getElem?_drop, Nat.mod_eq_of_lt (by omega)]
    · have hmod : (f + i) % M = f + i - M := by rw [Nat.mod_eq_sub_mod (by omega), Nat.mod_eq_of_lt (by omega)]
      rw [List.getElem?_append_right (by simp; omega), List.getElem?_append_left (by simp; omega), hmod]
      simp only [List.length_take, List.length_append, List.length_drop, List.length_replicate, List.length_nil, List.take_zero]
      rw [List.getElem?_take_of_lt (by omega)]
      congr 1
      omega
  · rw [List.getElem?_eq_none (by simp; omega), List.getElem?_eq_none (by simp; omega)]
theorem put_list (bs q l : List Int) (f M m d : Nat) (hl : bs.length = M) (hf : f = 0 ∨ f < M) (hm : m ≤ l.length) (hqm : q.length + m ≤ M) (hm0 : 0 < m) (hd : d = min m (M - (f + q.length) % M)) (hc : ∀ i, i < q.length → q[i]? = bs[(f + i) % M]?) :
    ∀ i, i < (q ++ l.take m).length → (q ++ l.take m)[i]? = (Kd.laid (Kd.laid bs ((f + q.length) % M) d (l.take m)) 0 (m - d) ((l.take m).drop d))[(f + i) % M]? := by
  intro i hi
  have hlt : (l.take m).length = m := by rw [List.length_take]; omega
  have hi' : i < q.length + m := by rw [List.length_append, hlt] at hi; exact hi
  obtain ⟨t, ht⟩ : ∃ t, t = (f + q.length) % M := ⟨_, rfl⟩
  have htM : t < M := by rw [ht]; exact Nat.mod_lt _ (by omega)
  have hfM : f < M := by omega
  rw [← ht] at hd ⊢
  have htv : t = f + q.length ∨ t + M = f + q.length := by
    rcases Nat.lt_or_ge (f + q.length) M with h | h
    · left; rw [ht, Nat.mod_eq_of_lt h]
    · right; rw [ht, Nat.mod_eq_sub_mod h, Nat.mod_eq_of_lt (by omega)]; omega
  obtain ⟨p, hp⟩ : ∃ p, p = (f + i) % M := ⟨_, rfl⟩
  have hpM : p < M := by rw [hp]; exact Nat.mod_lt _ (by omega)
  have hpv : p = f + i ∨ p + M = f + i := by
    rcases Nat.lt_or_ge (f + i) M with h | h
    · left; rw [hp, Nat.mod_eq_of_lt h]
    · right; rw [hp, Nat.mod_eq_sub_mod h, Nat.mod_eq_of_lt (by omega)]; omega
  rw [← hp]
  have hdl : ((l.take m).drop d).length = m - d := by rw [List.length_drop, hlt]
  have hout : ∀ x, (Kd.laid (Kd.laid bs t d (l.take m)) 0 (m - d) ((l.take m).drop d))[x]? = if x < m - d then ((l.take m).drop d)[x]? else (Kd.laid bs t d (l.take m))[x]? := by
    intro x
    unfold Kd.laid
    rw [List.take_zero, List.nil_append]
    by_cases h : x < m - d
    · rw [if_pos h, List.getElem?_append_left (by rw [List.length_take, hdl]; omega), List.getElem?_take_of_lt h]
    · rw [if_neg h, List.getElem?_append_right (by rw [List.length_take, hdl]; omega), List.getElem?_drop, List.length_take, hdl]
      congr 1
      omega
  have hin : ∀ x, (Kd.laid bs t d (l.take m))[x]? = if x < t then bs[x]? else if x < t + d then (l.take m)[x - t]? else bs[x]? := by
    intro x
    unfold Kd.laid
    by_cases h : x < t
    · rw [if_pos h, List.getElem?_append_left (by rw [List.length_take]; omega), List.getElem?_take_of_lt h]
    · rw [if_neg h, List.getElem?_append_right (by rw [List.length_take]; omega), List.length_take, show min t bs.length = t by omega]
      by_cases h2 : x < t + d
      · rw [if_pos h2, List.getElem?_append_left (by rw [List.length_take, hlt]; omega), List.getElem?_take_of_lt (by omega)]
      · rw [if_neg h2, List.getElem?_append_right (by rw [List.length_take, hlt]; omega), List.getElem?_drop, List.length_take, hlt]
        congr 1
        omega
  rw [hout, hin]
  by_cases hiq : i < q.length
  · rw [List.getElem?_append_left hiq, hc i hiq, ← hp]
    rw [if_neg (by omega)]
    by_cases h1 : p < t
    · rw [if_pos h1]
    · rw [if_neg h1, if_neg (by omega)]
  · rw [List.getElem?_append_right (by omega)]
    by_cases h0 : p < m - d
    · rw [if_pos h0, List.getElem?_drop]
      congr 1
      omega
    · rw [if_neg h0, if_neg (by omega), if_pos (by omega)]
      congr 1
      omega
theorem take_list (bs q : List Int) (f M m : Nat) (hM : 0 < M) (hc : ∀ i, i < q.length → q[i]? = bs[(f + i) % M]?) : ∀ i, i < (q.drop m).length → (q.drop m)[i]? = bs[((f + m) % M + i) % M]? := by
  intro i hi
  rw [List.length_drop] at hi
  rw [List.getElem?_drop, hc (m + i) (by omega), Nat.mod_add_mod, Nat.add_assoc]
end Go.Proofs.Ytakiojmjalbfpaa.Ring
