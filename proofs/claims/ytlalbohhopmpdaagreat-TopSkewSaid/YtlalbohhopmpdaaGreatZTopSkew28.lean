/- Words and walks for TopSkew (made of the session's own texts; each part by itself). -/
import Derived.Deep.WholeRow
import Derived.Great.BuildSlice
import Derived.Test.YtlalbohhopmpdaaGreatZTopSkew27
set_option maxRecDepth 100000
set_option maxHeartbeats 8000000
set_option linter.unusedVariables false
set_option linter.unusedSimpArgs false
namespace Go.Proofs.YtlalbohhopmpdaaGreat.Top
open Go.RowKit Go.Proofs.YtlalbohhopmpdaaGreat.PTop Go.YW.PrintWords Go.YW.PrintLast Go.YW.PrintMore Go.Proofs.YtlalbohhopmpdaaGreat.Num
theorem za8 : ∀ (x n : Int) (W : World), (Instr.build 37 #[(0, .int .i64 3), (1, .int .i64 x), (2, .int .i64 n)]).run Tryz.prog W = .ok (.agg #[.int .i64 3, .int .i64 x, .int .i64 n, .int .u16 0, .int .u16 0, .int .u16 0, .slice none 0 0, .slice none 0 0, .int .i64 0, .int .i64 0, .int .i64 0, .int .i64 0]) W := fun x n W => by kernel_rfl
theorem zbC : ∀ (x v : Int) (W : World), (Instr.build 37 #[(0, .int .i64 6), (1, .int .i64 x), (3, .int .u16 v)]).run Tryz.prog W = .ok (.agg #[.int .i64 6, .int .i64 x, .int .i64 0, .int .u16 v, .int .u16 0, .int .u16 0, .slice none 0 0, .slice none 0 0, .int .i64 0, .int .i64 0, .int .i64 0, .int .i64 0]) W := fun x v W => by kernel_rfl
def c39 (x y v : Int) : Array Value := (.int .i64 6 :: .int .i64 100 :: .int .i64 0 :: .int .u16 1 :: .int .u16 0 :: .int .u16 0 :: .slice none 0 0 :: .slice none 0 0 :: .int .i64 0 :: .int .i64 0 :: .int .i64 0 :: .int .i64 0 :: .int .i64 3 :: .int .i64 x :: .int .i64 1 :: .int .u16 0 :: .int .u16 0 :: .int .u16 0 :: .slice none 0 0 :: .slice none 0 0 :: .int .i64 0 :: .int .i64 0 :: .int .i64 0 :: .int .i64 0 :: .int .i64 6 :: .int .i64 y :: .int .i64 0 :: .int .u16 v :: .int .u16 0 :: .int .u16 0 :: .slice none 0 0 :: .slice none 0 0 :: .int .i64 0 :: .int .i64 0 :: .int .i64 0 :: .int .i64 0 :: []).toArray
theorem JG {W : World} {g : Nat} {x y v : Int} (h : W.heap[g]? = some (.cells (c39 x y v) 39 (0, 0))) : W.cell? ⟨g, 0, none⟩ = some (.int .i64 6) ∧ W.cell? ⟨g, 1, none⟩ = some (.int .i64 100) ∧ W.cell? ⟨g, 2, none⟩ = some (.int .i64 0) ∧ W.cell? ⟨g, 3, none⟩ = some (.int .u16 1) ∧ W.cell? ⟨g, 4, none⟩ = some (.int .u16 0) ∧ W.cell? ⟨g, 5, none⟩ = some (.int .u16 0) ∧ W.cell? ⟨g, 6, none⟩ = some (.slice none 0 0) ∧ W.cell? ⟨g, 7, none⟩ = some (.slice none 0 0) ∧ W.cell? ⟨g, 8, none⟩ = some (.int .i64 0) ∧ W.cell? ⟨g, 9, none⟩ = some (.int .i64 0) ∧ W.cell? ⟨g, 10, none⟩ = some (.int .i64 0) ∧ W.cell? ⟨g, 11, none⟩ = some (.int .i64 0) := ⟨za h 0, za h 1, za h 2, za h 3, za h 4, za h 5, za h 6, za h 7, za h 8, za h 9, za h 10, za h 11⟩
theorem JC {W : World} {g : Nat} {x y v : Int} (h : W.heap[g]? = some (.cells (c39 x y v) 39 (0, 0))) : W.cell? ⟨g, 12, none⟩ = some (.int .i64 3) ∧ W.cell? ⟨g, 13, none⟩ = some (.int .i64 x) ∧ W.cell? ⟨g, 14, none⟩ = some (.int .i64 1) ∧ W.cell? ⟨g, 15, none⟩ = some (.int .u16 0) ∧ W.cell? ⟨g, 16, none⟩ = some (.int .u16 0) ∧ W.cell? ⟨g, 17, none⟩ = some (.int .u16 0) ∧ W.cell? ⟨g, 18, none⟩ = some (.slice none 0 0) ∧ W.cell? ⟨g, 19, none⟩ = some (.slice none 0 0) ∧ W.cell? ⟨g, 20, none⟩ = some (.int .i64 0) ∧ W.cell? ⟨g, 21, none⟩ = some (.int .i64 0) ∧ W.cell? ⟨g, 22, none⟩ = some (.int .i64 0) ∧ W.cell? ⟨g, 23, none⟩ = some (.int .i64 0) := ⟨za h 12, za h 13, za h 14, za h 15, za h 16, za h 17, za h 18, za h 19, za h 20, za h 21, za h 22, za h 23⟩
theorem JA {W : World} {g : Nat} {x y v : Int} (h : W.heap[g]? = some (.cells (c39 x y v) 39 (0, 0))) : W.cell? ⟨g, 24, none⟩ = some (.int .i64 6) ∧ W.cell? ⟨g, 25, none⟩ = some (.int .i64 y) ∧ W.cell? ⟨g, 26, none⟩ = some (.int .i64 0) ∧ W.cell? ⟨g, 27, none⟩ = some (.int .u16 v) ∧ W.cell? ⟨g, 28, none⟩ = some (.int .u16 0) ∧ W.cell? ⟨g, 29, none⟩ = some (.int .u16 0) ∧ W.cell? ⟨g, 30, none⟩ = some (.slice none 0 0) ∧ W.cell? ⟨g, 31, none⟩ = some (.slice none 0 0) ∧ W.cell? ⟨g, 32, none⟩ = some (.int .i64 0) ∧ W.cell? ⟨g, 33, none⟩ = some (.int .i64 0) ∧ W.cell? ⟨g, 34, none⟩ = some (.int .i64 0) ∧ W.cell? ⟨g, 35, none⟩ = some (.int .i64 0) := ⟨za h 24, za h 25, za h 26, za h 27, za h 28, za h 29, za h 30, za h 31, za h 32, za h 33, za h 34, za h 35⟩
theorem yY {P : Program} {ops : Array Oper} {rest : List Oper} {o : Oper} {a : Act} {w : World} {Q : Exit → Act → World → Prop} (hgd : o.guard = none) (ty : TypeId) (x y : Operand) (ho : o.op = .store ty x y) (hd : o.dst = none)
    (cells old : Array Value) (hx : a.eval x = .pointer (some ⟨w.heap.size, 0, none⟩)) (hy : a.eval y = .agg cells) (hi : (P.info? ty).map (·.size) = some cells.size)
    (hold : old.size = cells.size) (h1 : cells.all (·.oneCell') = true)
    (h : wpList P ops Q rest a (w.alloc (.cells cells ty))) : wpList P ops Q (o :: rest) a (w.alloc (.cells old ty)) := by
  refine wpList_store_row hgd ty x y ho w.heap.size cells hx hy ty old (heap_alloc_last w _) hi hold h1 ?_
  rw [hd, World.setRow_alloc_new]
  exact h
def va (x : Int) : VS := ⟨0, [⟨2, x, x + 1⟩], []⟩
def vw (x y v : Int) : VS := ⟨0, [⟨2, x, x + 1⟩], [⟨⟨2, y⟩, v⟩]⟩
def sk1 : Sg := (G0.put 0 ⟨0, [], []⟩).turn 0 (1, 0, 0)
def sk2 (x : Int) : Sg := sk1.put 0 (va x)
def sk3 (x y : Int) : Sg := (sk2 x).put 0 (vw x y 7)
def sk4 (x y : Int) : Sg := ((sk3 x y).put 1 ⟨0, [], []⟩).turn 1 (1, 0, 0)
def sk5 (x y z : Int) : Sg := (sk4 x y).put 1 (va z)
def sk6 (x y z : Int) : Sg := (sk5 x y z).put 1 (vw z x 8)
def sk7 (x y z : Int) : Sg := (sk6 x y z).scommit 0 (vw x y 7)
def sk8 (x y z : Int) : Sg := (sk7 x y z).scommit 1 (vw z x 8)
def sr7 (x y z : Int) : Sg := (sk6 x y z).scommit 1 (vw z x 8)
def sr8 (x y z : Int) : Sg := (sr7 x y z).scommit 0 (vw x y 7)
theorem ok_none : ky (fun _ => []) := fun k => ⟨List.Pairwise.nil, Nat.zero_le _⟩
theorem ok_one (p : Int × Int) (v : Int) : ky (fun k => if k = p then [⟨1, v⟩] else []) := by
  intro k
  show rises (if k = p then [⟨1, v⟩] else []) ∧ (if k = p then [(⟨1, v⟩ : xY)] else []).length ≤ 1000000
  split
  · exact ⟨List.pairwise_singleton _ _, by show 1 ≤ 1000000; omega⟩
  · exact ⟨List.Pairwise.nil, Nat.zero_le _⟩
theorem zbe (s : SS) (h : s.last = 0 ∧ s.n = 0 ∧ s.most = 100000) : (0 ≤ s.last ∧ s.last < 1000000) ∧ (0 ≤ s.n ∧ s.n + 1 ≤ s.most ∧ s.most ≤ 1000000) := by
  obtain ⟨h1, h2, h3⟩ := h
  rw [h1, h2, h3]
  decide
theorem VD (s : SS) (h : s.last = 1 ∧ s.n = 1 ∧ s.most = 100000) : (0 ≤ s.last ∧ s.last < 1000000) ∧ (0 ≤ s.n ∧ s.n + 1 ≤ s.most ∧ s.most ≤ 1000000) := by
  obtain ⟨h1, h2, h3⟩ := h
  rw [h1, h2, h3]
  decide
theorem ch7 (x y z : Int) : (sk7 x y z).s.ch = fun k => if k = (2, y) then [⟨1, 7⟩] else [] := rfl
theorem zdq (x y z : Int) : (sr7 x y z).s.ch = fun k => if k = (2, x) then [⟨1, 8⟩] else [] := rfl
theorem s7 (x y z : Int) : (sk7 x y z).s.last = 1 ∧ (sk7 x y z).s.n = 1 ∧ (sk7 x y z).s.most = 100000 := ⟨rfl, rfl, rfl⟩
theorem Vs (x y z : Int) (h : z = y) : xn (sk7 x y z).s.ch [⟨2, z, z + 1⟩] 0 = false := by
  rw [ch7]
  subst h
  show (!(decide (0 < newest (if ((2 : Int), z) = (2, z) then [⟨1, 7⟩] else [])))) = false
  rw [if_pos rfl]
  rfl
theorem Vi (x y z : Int) (h : z ≠ y) : xn (sk7 x y z).s.ch [⟨2, z, z + 1⟩] 0 = true := by
  rw [ch7]
  show (!(decide (0 < newest (if ((2 : Int), z) = (2, y) then [⟨1, 7⟩] else [])))) = true
  rw [if_neg (fun e => h (Prod.mk.inj e).2)]
  rfl
theorem Vb (x y z : Int) : xn (sr7 x y z).s.ch [⟨2, x, x + 1⟩] 0 = false := by
  rw [zdq]
  show (!(decide (0 < newest (if ((2 : Int), x) = (2, x) then [⟨1, 8⟩] else [])))) = false
  rw [if_pos rfl]
  rfl
theorem zdb (x y z : Int) (h : z = y) : ((sk8 x y z).ses 1).getD (0, 0, 0) = (0, 2, 0) := by
  show (some ((0 : Int), (if xn (sk7 x y z).s.ch [⟨2, z, z + 1⟩] 0 then (0 : Int) else 2), (if xn (sk7 x y z).s.ch [⟨2, z, z + 1⟩] 0 then (sk7 x y z).s.last + 1 else 0))).getD (0, 0, 0) = _
  rw [Vs x y z h]
  rfl
theorem zdl (x y z : Int) (h : z ≠ y) : ((sk8 x y z).ses 1).getD (0, 0, 0) = (0, 0, 2) := by
  show (some ((0 : Int), (if xn (sk7 x y z).s.ch [⟨2, z, z + 1⟩] 0 then (0 : Int) else 2), (if xn (sk7 x y z).s.ch [⟨2, z, z + 1⟩] 0 then (sk7 x y z).s.last + 1 else 0))).getD (0, 0, 0) = _
  rw [Vi x y z h]
  rfl
theorem zdA (x y z : Int) : ((sr8 x y z).ses 0).getD (0, 0, 0) = (0, 2, 0) := by
  show (some ((0 : Int), (if xn (sr7 x y z).s.ch [⟨2, x, x + 1⟩] 0 then (0 : Int) else 2), (if xn (sr7 x y z).s.ch [⟨2, x, x + 1⟩] 0 then (sr7 x y z).s.last + 1 else 0))).getD (0, 0, 0) = _
  rw [Vb x y z]
  rfl
section
variable {w : World} {B : Nat} {x : Ix} {tb gb dk : Nat} {L : Nat → Nat → Nat} {a b z : Int}
theorem t1 (h : xk w B 0 x G0 tb gb dk 3 L 0) (hx : x.most = 8) : zR w B 4 x sk1 tb gb dk 3 L 0 0 6 100 0 1 0 [] 100 1 := Zh h (by omega) (by omega) 0 (by decide) rfl (by decide) (by rw [hx]; decide)
theorem t2 (h : xk w B 4 x sk1 tb gb dk 3 L 1) (ha : okA a) (hx : x.spans = 500) : zR w B 6 x (sk2 a) tb gb dk 3 L 1 0 3 a 1 0 0 [0] 0 0 := Xu h (by omega) (by omega) 0 (by decide) a 0 ha (by omega) ok_none rfl 0 rfl hx rfl
theorem t3 (h : xk w B 6 x (sk2 a) tb gb dk 3 L 2) (hb : okA b) (hx : x.writes = 2000) : zR w B 8 x (sk3 a b) tb gb dk 3 L 2 0 6 b 0 7 0 [] b 7 := Zn h (by omega) (by omega) 0 (by decide) b 7 hb (by omega) rfl 0 [⟨2, a, a + 1⟩] (by show 1 ≤ 1000; omega) rfl hx
theorem t4 (h : xk w B 8 x (sk3 a b) tb gb dk 3 L 3) (hx : x.most = 8) : zR w B 12 x (sk4 a b) tb gb dk 3 L 3 1 6 100 0 1 0 [] 100 1 := Zh h (by omega) (by omega) 1 (by decide) rfl (by show ((0 : Int) ≠ 1); omega) (by rw [hx]; show (1 : Int) < 8; omega)
theorem t5 (h : xk w B 12 x (sk4 a b) tb gb dk 3 L 4) (ha : okA z) (hx : x.spans = 500) : zR w B 14 x (sk5 a b z) tb gb dk 3 L 4 1 3 z 1 0 0 [0] 0 0 := Xu h (by omega) (by omega) 1 (by decide) z 0 ha (by omega) ok_none rfl 0 rfl hx rfl
theorem t6 (h : xk w B 14 x (sk5 a b z) tb gb dk 3 L 5) (hb : okA a) (hx : x.writes = 2000) : zR w B 16 x (sk6 a b z) tb gb dk 3 L 5 1 6 a 0 8 0 [] a 8 := Zn h (by omega) (by omega) 1 (by decide) a 8 hb (by omega) rfl 0 [⟨2, z, z + 1⟩] (by show 1 ≤ 1000; omega) rfl hx
theorem jl {a : Int} (h : okA a) (t : Int) (v : Int) : vK [⟨2, a, a + 1⟩] ∧ qJ ⟨⟨2, a⟩, v⟩ := by
  have := kv h
  exact ⟨.inr ⟨2, a, rfl, by omega, by omega⟩, rfl, this.1, by show a < 65536; omega⟩
theorem t7 (h : xk w B 16 x (sk6 a b z) tb gb dk 3 L 6) (ha : okA a) (hb : okA b) : zR w B 19 x (sk7 a b z) tb gb dk 3 L 6 0 6 100 0 2 0 [] 100 2 := jY h (by omega) (by omega) 0 (by decide) ok_none rfl 0 [⟨2, a, a + 1⟩] ⟨⟨2, b⟩, 7⟩ rfl (jl ha 0 0).1 (jl hb 0 7).2 (zbe _ ⟨rfl, rfl, rfl⟩).1 (zbe _ ⟨rfl, rfl, rfl⟩).2 rfl
theorem tr7 (h : xk w B 16 x (sk6 a b z) tb gb dk 3 L 6) (ha : okA a) (hz : okA z) : zR w B 19 x (sr7 a b z) tb gb dk 3 L 6 1 6 100 0 2 0 [] 100 2 := jY h (by omega) (by omega) 1 (by decide) ok_none rfl 0 [⟨2, z, z + 1⟩] ⟨⟨2, a⟩, 8⟩ rfl (jl hz 0 0).1 (jl ha 0 8).2 (zbe _ ⟨rfl, rfl, rfl⟩).1 (zbe _ ⟨rfl, rfl, rfl⟩).2 rfl
theorem t8y (h : xk w B 19 x (sk7 a b z) tb gb dk 3 L 7) (ha : okA a) (hz : okA z) (hy : z = b) : zR w B 22 x (sk8 a b z) tb gb dk 3 L 7 1 6 100 0 2 4 [] 0 0 := YQ h (by omega) (by omega) 1 (by decide) (by rw [ch7]; exact ok_one _ _) rfl 0 [⟨2, z, z + 1⟩] ⟨⟨2, a⟩, 8⟩ rfl (jl hz 0 0).1 (jl ha 0 8).2 (VD _ ⟨rfl, rfl, rfl⟩).1 (VD _ ⟨rfl, rfl, rfl⟩).2 (Vs a b z hy)
theorem t8n (h : xk w B 19 x (sk7 a b z) tb gb dk 3 L 7) (ha : okA a) (hz : okA z) (hy : z ≠ b) : zR w B 22 x (sk8 a b z) tb gb dk 3 L 7 1 6 100 0 2 0 [] 100 2 := jY h (by omega) (by omega) 1 (by decide) (by rw [ch7]; exact ok_one _ _) rfl 0 [⟨2, z, z + 1⟩] ⟨⟨2, a⟩, 8⟩ rfl (jl hz 0 0).1 (jl ha 0 8).2 (VD _ ⟨rfl, rfl, rfl⟩).1 (VD _ ⟨rfl, rfl, rfl⟩).2 (Vi a b z hy)
theorem tr8 (h : xk w B 19 x (sr7 a b z) tb gb dk 3 L 7) (ha : okA a) (hb : okA b) : zR w B 22 x (sr8 a b z) tb gb dk 3 L 7 0 6 100 0 2 4 [] 0 0 := YQ h (by omega) (by omega) 0 (by decide) (by rw [zdq]; exact ok_one _ _) rfl 0 [⟨2, a, a + 1⟩] ⟨⟨2, b⟩, 7⟩ rfl (jl ha 0 0).1 (jl hb 0 7).2 (VD _ ⟨rfl, rfl, rfl⟩).1 (VD _ ⟨rfl, rfl, rfl⟩).2 (Vb a b z)
theorem t9y (h : xk w B 22 x (sk8 a b z) tb gb dk 3 L 8) (hy : z = b) : zR w B 23 x (sk8 a b z) tb gb dk 3 L 8 1 3 101 2 0 0 [0, 2] 0 0 := kW h (by omega) (by omega) 1 (by decide) 0 2 0 (zdb a b z hy) (by omega) (by omega)
theorem t9n (h : xk w B 22 x (sk8 a b z) tb gb dk 3 L 8) (hy : z ≠ b) : zR w B 23 x (sk8 a b z) tb gb dk 3 L 8 1 3 101 2 0 0 [0, 0] 0 0 := kW h (by omega) (by omega) 1 (by decide) 0 0 2 (zdl a b z hy) (by omega) (by omega)
theorem tr9 (h : xk w B 22 x (sr8 a b z) tb gb dk 3 L 8) : zR w B 23 x (sr8 a b z) tb gb dk 3 L 8 0 3 101 2 0 0 [0, 2] 0 0 := kW h (by omega) (by omega) 0 (by decide) 0 2 0 (zdA a b z) (by omega) (by omega)
end
end Go.Proofs.YtlalbohhopmpdaaGreat.Top
