/- A row with three marks behind its last element (this session's; beside the print's rows R, S, Q, V). -/
import Derived.Test.YtgbclemmadkcmaaWPlus
import Derived.Test.YtgbclemmadkcmaaWMore
import Derived.Test.YtgbclemmadkcmaaWAt
import Derived.Test.YtgbclemmadkcmaaWKept
import Derived.Test.YtgbclemmadkcmaaWShare
set_option linter.unusedVariables false
set_option linter.unusedSimpArgs false
namespace Go.Proofs.YtgbclemmadkcmaaW.PrintWords
open Go.RowKit Go.Proofs.YtgbclemmadkcmaaW.PrintLast Go.Proofs.YtgbclemmadkcmaaW.PrintMore
namespace Kd
class Marked {α : Type} (d : Kd α) where
  mark : α
instance : Marked (Kd.int .u8) := ⟨0xA5⟩
instance : Marked (Kd.int .u16) := ⟨0xA5A5⟩
/-- The value, three longer. -/
def lng : Value → Value
  | .slice A n c => .slice A (n + 3) c
  | v => v
theorem lng_own (v : Value) : (lng v).ownBlock = v.ownBlock := by
  cases v with
  | slice A n c => cases A <;> rfl
  | _ => rfl
def marks {α : Type} (d : Kd α) [Marked d] : List α := [Marked.mark d, Marked.mark d, Marked.mark d]
def L {α : Type} (d : Kd α) [Marked d] (e : Nat) (w : World) (base : Nat) (ok : Nat → Prop) (v : Value) (xs : List α) : Prop :=
  (∃ A c, v = .slice A xs.length c) ∧ d.R e w base ok (lng v) (xs ++ marks d)
section
variable {α : Type} {d : Kd α} [Marked d] {e e' g t N : Nat} {w w1 W W2 : World} {base : Nat} {ok ok' S : Nat → Prop} {u v : Value} {xs : List α}
theorem L_mono (h : d.L e w base ok v xs) (hok : ∀ k, ok k → ok' k) : d.L e w base ok' v xs := ⟨h.1, R_mono h.2 hok⟩
theorem L_bound (h : d.L e w base ok v xs) : d.L e w base (fun k => ok k ∧ base ≤ k ∧ k < w.heap.size ∧ ∃ q, q ∈ e :: d.E ∧ ∃ cells, w.heap[k]? = some (.cells cells q (0, 0))) v xs := ⟨h.1, R_bound h.2⟩
theorem L_move (h : d.L e w base ok v xs) (hm : ∀ k, ok k → w1.heap[k]? = w.heap[k]?) : d.L e w1 base ok v xs := ⟨h.1, R_move h.2 hm⟩
theorem L_lower {base' : Nat} (h : d.L e w base ok v xs) (hb : base' ≤ base) : d.L e w base' ok v xs := ⟨h.1, R_lower h.2 hb⟩
theorem L_ok (h : d.L e w base ok v xs) : ∀ k, v.ownBlock = some k → ok k := fun k hk => h.2.1 k (by rw [lng_own]; exact hk)
theorem L_lt (h : d.L e w base ok v xs) : ∀ k, v.ownBlock = some k → k < w.heap.size := fun k hk => R_lt h.2 k (by rw [lng_own]; exact hk)
theorem L_base (h : d.L e w base ok v xs) : ∀ k, v.ownBlock = some k → base ≤ k := fun k hk => R_base h.2 k (by rw [lng_own]; exact hk)
theorem L_typed (h : d.L e w base ok v xs) : ∀ k, v.ownBlock = some k → ∃ cells, w.heap[k]? = some (.cells cells e (0, 0)) := fun k hk => R_typed h.2 k (by rw [lng_own]; exact hk)
theorem L_ne (h : d.L e w base ok v xs) {cells : Array Value} (hb : w.heap[g]? = some (.cells cells t (0, 0))) (ht : e ≠ t) : some g ≠ v.ownBlock := by
  have := R_ne h.2 hb ht
  rwa [lng_own] at this
theorem L_tight (hE : d.E = []) (h : d.L e w base ok v xs) : d.L e w base (fun k => some k = v.ownBlock) v xs := ⟨h.1, by have := R_tight hE h.2; rwa [lng_own] at this⟩
/-- What stands there with the marks. -/
theorem L_reads3 {A : Option Addr} {n c : Nat} (h : d.L e w base ok (.slice A n c) xs) : n = xs.length ∧ n + 3 ≤ c ∧ d.C w A (xs ++ marks d).length (xs ++ marks d) := by
  obtain ⟨⟨A', c', he⟩, hR⟩ := h
  injection he with h1 h2 h3
  exact ⟨h2, (R_reads' (A := A) (n := n + 3) (c := c) hR).2⟩
theorem L_reads' {A : Option Addr} {n c : Nat} (h : d.L e w base ok (.slice A n c) xs) : n = xs.length ∧ n ≤ c ∧ d.C w A xs.length xs := by
  obtain ⟨h1, h2, h3⟩ := L_reads3 h
  refine ⟨h1, by omega, ?_⟩
  have := C_take (m := xs.length) h3 (by simp)
  rwa [List.take_left] at this
theorem L_reads (h : d.L e w base ok v xs) : ∃ A c, v = .slice A xs.length c ∧ xs.length ≤ c ∧ d.C w A xs.length xs := by
  obtain ⟨A, c, rfl⟩ := h.1
  exact ⟨A, c, rfl, (L_reads' h).2⟩
theorem L_slice (h : d.L e w base ok v xs) : ∃ A c, v = .slice A xs.length c ∧ xs.length ≤ c := by
  obtain ⟨A, c, h1, h2, _⟩ := L_reads h
  exact ⟨A, c, h1, h2⟩
theorem L_step (h : d.L e w base ok v xs) (hm : ∀ k, ok k → k < w.heap.size → w1.heap[k]? = w.heap[k]?) : d.L e w1 base ok v xs := ⟨h.1, R_step h.2 hm⟩
theorem L_below (h : d.L e w base ok v xs) (hb : Below w.heap.size w w1) : d.L e w1 base ok v xs := ⟨h.1, R_below h.2 hb⟩
theorem L_alloc (h : d.L e w base ok v xs) (o : Obj) : d.L e (w.alloc o) base ok v xs := ⟨h.1, R_alloc h.2 o⟩
theorem L_drew (h : d.L e w base ok v xs) : d.L e w.drew base ok v xs := ⟨h.1, R_drew h.2⟩
theorem L_drewN (h : d.L e w base ok v xs) (m : Nat) : d.L e (w.drewN m) base ok v xs := ⟨h.1, R_drewN h.2 m⟩
theorem L_grown (h : d.L e w base ok v xs) {row : Option Nat} (hg : w.grownBy w1 row) (hok : ∀ k, ok k → some k ≠ row) : d.L e w1 base ok v xs := ⟨h.1, R_grown h.2 hg hok⟩
theorem L_far (h : d.L e w base ok v xs) {p : Addr} (hok : ∀ k, ok k → k ≠ p.block) (z : Value) : d.L e (w.setCell p z) base ok v xs := ⟨h.1, R_far h.2 hok z⟩
theorem L_keep (h : d.L e w base ok v xs) (hk : KeepBut w w1 g none) (hok : ∀ k, ok k → k ≠ g) : d.L e w1 base ok v xs := ⟨h.1, R_keep h.2 hk hok⟩
theorem L_types (h : d.L e w base ok v xs) {cells : Array Value} (hb : w.heap[g]? = some (.cells cells t (0, 0))) (ht : ∀ q, q ∈ e :: d.E → q ≠ t) : d.L e w base (fun k => ok k ∧ k ≠ g) v xs := ⟨h.1, R_types h.2 hb ht⟩
theorem L_set (h : d.L e w base ok v xs) {cells : Array Value} (hb : w.heap[g]? = some (.cells cells t (0, 0))) (ht : ∀ q, q ∈ e :: d.E → q ≠ t) (j : Nat) (z : Value) : d.L e (w.setCell ⟨g, j, none⟩ z) base ok v xs := ⟨h.1, R_set h.2 hb ht j z⟩
theorem L_away (h : d.L e w base ok v xs) (hok : ∀ k, ok k → k ≠ g) : some g ≠ v.ownBlock := fun he => hok g (L_ok h g he.symm) rfl
theorem L_form (h : d.L e w base ok v xs) (hp : 0 < xs.length) : ∃ g cap, v = .slice (some ⟨g, 0, none⟩) xs.length cap ∧ base ≤ g ∧ g < w.heap.size ∧ ∃ cells, w.heap[g]? = some (.cells cells e (0, 0)) := by
  obtain ⟨⟨A, c, rfl⟩, hR⟩ := h
  obtain ⟨g, cap, he, h1⟩ := R_form hR (by simp; omega)
  injection he with h2 h3 h4
  subst h2; subst h4
  exact ⟨g, c, rfl, h1⟩
theorem L_over' (h : d.L e W base ok u xs) (hty : ∀ k, v.ownBlock = some k → ∃ cells, W.heap[k]? = some (.cells cells e' (0, 0))) (ht : ∀ q, q ∈ e :: d.E → q ≠ e') (hg : W.grownBy w1 v.ownBlock) : d.L e w1 base ok u xs := ⟨h.1, R_over' h.2 hty ht hg⟩
theorem L_apart' (h : d.L e W base ok u xs) (hty : ∀ k, v.ownBlock = some k → ∃ cells, W.heap[k]? = some (.cells cells e' (0, 0))) (ht : ∀ q, q ∈ e :: d.E → q ≠ e') : d.L e W base (fun k => ok k ∧ some k ≠ v.ownBlock) u xs := ⟨h.1, R_apart' h.2 hty ht⟩
theorem L_elder' (hu : d.L e W base ok u xs) (hbase : ∀ k, v.ownBlock = some k → W.heap.size ≤ k) (hb : Below W.heap.size W w1) : d.L e w1 base (fun k => ok k ∧ some k ≠ v.ownBlock) u xs := ⟨hu.1, R_elder' hu.2 hbase hb⟩
theorem L_new' (h : d.L e w1 W.heap.size ok v xs) (hlt : ∀ k, u.ownBlock = some k → k < W.heap.size) : d.L e w1 W.heap.size (fun k => ok k ∧ some k ≠ u.ownBlock) v xs := ⟨h.1, R_new' h.2 hlt⟩
theorem L_elderB (h : d.L e w base ok v xs) (a : Nat) (ha : w.heap.size ≤ a) : d.L e w base (fun k => ok k ∧ k ≠ a) v xs := L_mono (L_bound h) (fun k hk => ⟨hk.1, by have := hk.2.2.1; omega⟩)
theorem L_newB {o : Obj} (h : d.L e w1 w.heap.size ok v xs) (hb : w.heap[g]? = some o) : d.L e w1 w.heap.size (fun k => ok k ∧ k ≠ g) v xs := L_mono (L_bound h) (fun k hk => ⟨hk.1, by have := blk_lt hb; have := hk.2.1; omega⟩)
theorem L_base2 (h : d.L e w base ok v xs) : v.ownBlock = none ∨ ∃ k, v.ownBlock = some k ∧ base ≤ k := by
  cases hv : v.ownBlock with
  | none => exact .inl rfl
  | some k => exact .inr ⟨k, rfl, L_base h k hv⟩
theorem L_grown1 (h : d.L e W base ok v xs) (hE : d.E = []) {row : Option Nat} (hg : W.grownBy w1 row) (hne : row ≠ v.ownBlock) : d.L e w1 base ok v xs :=
  L_mono (L_grown (L_tight hE h) hg (fun _ hk e_ => hne (e_.symm.trans hk))) (fun k hk => L_ok h k hk.symm)
theorem L_grown2 (h : d.L e W base ok v xs) (hE : d.E = []) {row : Option Nat} (hg : W.grownBy w1 row) (hne : ∀ k, row = some k → some k ≠ v.ownBlock) : d.L e w1 base ok v xs :=
  L_mono (L_grown (L_tight hE h) hg (fun k hk e_ => hne k e_.symm hk)) (fun k hk => L_ok h k hk.symm)
theorem L_far1 (h : d.L e W base ok v xs) (hE : d.E = []) (hne : some g ≠ v.ownBlock) : d.L e W base (fun k => ok k ∧ k ≠ g) v xs :=
  L_mono (L_tight hE h) (fun k hk => ⟨L_ok h k hk.symm, fun e_ => hne (by rw [← e_]; exact hk)⟩)
theorem L_at {m : Nat} {w' : World} (hq : w.drewN m = w') (h : d.L e w base ok v xs) : d.L e w' base ok v xs := by subst hq; exact L_drewN h m
theorem L_kept (h : d.L e W base ok v xs) (hk : Kept W W2 S) (hne : ∀ k, ok k → ¬ S k) : d.L e W2 base ok v xs := L_step h (fun k ho hlt => hk.2 k hlt (hne k ho))
theorem L_old (hu : d.L e W base ok u xs) (hb : Below W.heap.size W w1) : d.L e w1 base (fun k => ok k ∧ k < W.heap.size) u xs := L_mono (L_below (L_bound hu) hb) (fun _ h => ⟨h.1, h.2.2.1⟩)
theorem L_apart_nil (h : d.L e W base ok u xs) : d.L e W base (fun k => ok k ∧ some k ≠ (Value.slice none 0 0).ownBlock) u xs := L_mono h (fun k hk => ⟨hk, by simp [Value.ownBlock]⟩)
theorem L_told (h : d.L e w1 base (fun k => ok k ∧ k < N) u xs) (hbase : ∀ k, v.ownBlock = some k → N ≤ k) : d.L e w1 base (fun k => (ok k ∧ some k ≠ v.ownBlock) ∧ k < N) u xs :=
  L_mono h (fun k hk => ⟨⟨hk.1, fun e_ => Nat.lt_irrefl _ (Nat.lt_of_lt_of_le hk.2 (hbase k e_.symm))⟩, hk.2⟩)
theorem L_ne_new (h : d.L e w base ok v xs) (k : Nat) : some (w.heap.size + k) ≠ v.ownBlock := fun he => by
  have := L_lt h _ he.symm
  omega
/-- A row cut three short, its last three being the marks. -/
theorem L_of_R {A : Option Addr} {n c m : Nat} (h : d.R e w base ok (.slice A n c) xs) (hm : xs.drop m = marks d) : d.L e w base ok (.slice A m c) (xs.take m) := by
  have hx : n = xs.length := (R_reads' h).1
  have h3 : xs.length - m = 3 := by rw [← List.length_drop, hm]; rfl
  have hl : (xs.take m).length = m := by rw [List.length_take]; omega
  refine ⟨⟨A, c, by rw [hl]⟩, ?_⟩
  have : xs.take m ++ marks d = xs := by rw [← hm]; exact List.take_append_drop m xs
  rw [this]
  show d.R e w base ok (.slice A (m + 3) c) xs
  rw [show m + 3 = n from by omega]
  exact h
theorem L_room3 {A : Option Addr} {n c : Nat} (h : d.L e w base ok (.slice A n c) xs) : (xs ++ marks d).length ≤ c := by
  have := L_reads3 h
  rw [List.length_append]
  have h3 : (marks d).length = 3 := rfl
  omega
end
end Kd
/-- x[:j] past the length, within the capacity. -/
theorem cut_over {P : Program} (t e : TypeId) (kh : IntKind) {i : TypeInfo} (ht : P.underlying t = some (.slice e)) (hi : P.info? e = some i) (A : Option Addr) (n N c : Nat) (j : Int) (hj : j = (N : Int)) (hc : N ≤ c) :
    ∀ W : World, (Instr.slice t (.slice A n c) none (some (.int kh j)) none).run P W = .ok (.slice A N c) W := by
  intro W
  subst hj
  have hel : P.elem t = e := by simp [Program.elem, ht]
  have hu : P.underlying t = some (.slice (P.elem t)) := by rw [hel]; exact ht
  have ha : (A.map fun x => x.add 0) = A := by cases A <;> simp [Addr.add]
  rw [run_slice_h W t A n c hu kh (N : Int) (by omega) (by omega), hel]
  simp [sizeOf, typeInfo, hi, sliced, Result.andThen, ha]
end Go.Proofs.YtgbclemmadkcmaaW.PrintWords
