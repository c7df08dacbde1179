/- Words and walks for TopSkew (made of the session's own texts; each part by itself). -/
import Derived.Deep.DeepCutAuto
import Derived.Deep.DeepMust
import Derived.Deep.RegionLaw
import Derived.Test.YtlalbohhopmpdaaGreatZTopSkew13
set_option maxRecDepth 100000
set_option maxHeartbeats 8000000
set_option linter.unusedVariables false
set_option linter.unusedSimpArgs false
namespace Go.Proofs.YtlalbohhopmpdaaGreat.Top
open Go.Proofs.YtlalbohhopmpdaaGreat.Tiny
open Go.RowKit Go.Proofs.YtlalbohhopmpdaaGreat.PTop Go.YW.PrintWords Go.YW.PrintLast Go.YW.PrintMore Go.Proofs.YtlalbohhopmpdaaGreat.Num
attribute [local go_sem] zm zu
theorem JW (n : Int) (h : 1 ≤ n ∧ n ≤ 125) : jv.f n 125 = some true := by
  unfold jv.f
  rw [if_pos h.1, dT h.2]
theorem QG (w : World) (l : List Int) (hl : 1 ≤ l.length ∧ l.length ≤ 125) (A2 : Option Addr) (c2 : Nat) (A3 : Option Addr) (c3 : Nat) (A13 : Option Addr) (c13 : Nat) :
    Calls Tryz.prog 145 #[.agg (zI 3 0 (.slice A2 0 c2) (.slice A3 l.length c3) 0 0 (.slice A13 0 c13))] w fun e w' => e = .returned (.bool true) ∧ Below w.heap.size w w' := by
  have hu41 := Tryz.underlying41
  have hu274 := Tryz.underlying274
  have heq : ∀ W : World, (Op.equalIn 10000 274 (.agg #[.int .i64 0, .int .i64 0, .int .i64 0, .int .i64 0, .int .i64 0, .int .i64 0, .int .i64 0, .int .i64 0, .int .i64 0, .int .i64 0, .int .i64 (l.length : Int), .int .i64 0]) (.agg #[.int .i64 0, .int .i64 0, .int .i64 0, .int .i64 0, .int .i64 0, .int .i64 0, .int .i64 0, .int .i64 0, .int .i64 0, .int .i64 0, .int .i64 (l.length : Int), .int .i64 0])).run Tryz.prog W = .ok true W := fun W => zam 0 0 0 0 0 0 0 0 0 0 (l.length : Int) 0 W
  have HL := hQ hl
  clear hl
  obtain ⟨W2, hW2⟩ : ∃ W2, W2 = (w.alloc (.cells (zI 3 0 (.slice A2 0 c2) (.slice A3 l.length c3) 0 0 (.slice A13 0 c13)) 41)).drew := ⟨_, rfl⟩
  have hb2 : Below w.heap.size w W2 := by rw [hW2]; exact ((Below.refl _ _).alloc (Nat.le_refl _) _).trans (zk (Below.refl _ _))
  have B2 := hQ hb2
  have X2 := hQ (show W2.heap[w.heap.size]? = some (.cells (zI 3 0 (.slice A2 0 c2) (.slice A3 l.length c3) 0 0 (.slice A13 0 c13)) 41 (0, 0)) by rw [hW2]; exact zb (zi w _) (zk (Below.refl _ _)))
  rw [hW2] at B2 X2
  clear hb2 hW2
  simp only [zI] at B2 X2 ⊢
  go_enter Tryz.func145, Tryz.ntmps145
  go_wp2_with (fail)
  refine sq_ (ds := []) #[false, false, false, false, false, false, false, false, false, false, false, false, false, false, false, false, false, false, false, false, false, false] (fun w' => w'.cell? ⟨w.heap.size, 0, none⟩ = some (.int .i64 3) ∧ w'.cell? ⟨w.heap.size, 1, none⟩ = some (.int .i64 0) ∧ w'.cell? ⟨w.heap.size, 2, none⟩ = some (.slice A2 0 c2) ∧ w'.cell? ⟨w.heap.size, 3, none⟩ = some (.slice A3 l.length c3) ∧ w'.cell? ⟨w.heap.size, 4, none⟩ = some (.int .i64 0) ∧ w'.cell? ⟨w.heap.size, 5, none⟩ = some (.int .i64 0) ∧ w'.cell? ⟨w.heap.size, 6, none⟩ = some (.int .u16 0) ∧ w'.cell? ⟨w.heap.size, 7, none⟩ = some (.int .u16 0) ∧ w'.cell? ⟨w.heap.size, 8, none⟩ = some (.int .u16 0) ∧ w'.cell? ⟨w.heap.size, 9, none⟩ = some (.int .i64 0) ∧ w'.cell? ⟨w.heap.size, 10, none⟩ = some (.int .i64 0) ∧ w'.cell? ⟨w.heap.size, 11, none⟩ = some (.bool false) ∧ w'.cell? ⟨w.heap.size, 12, none⟩ = some (.int .i64 0) ∧ w'.cell? ⟨w.heap.size, 13, none⟩ = some (.slice A13 0 c13)) ⟨za X2.out 0, za X2.out 1, za X2.out 2, za X2.out 3, za X2.out 4, za X2.out 5, za X2.out 6, za X2.out 7, za X2.out 8, za X2.out 9, za X2.out 10, za X2.out 11, za X2.out 12, za X2.out 13⟩ (fun hHeld => ?_)
  refine pq_ 0 (some 23) ?_
  refine tq_ 1 (some 24) hHeld ?_
  refine oq_ 2 (some 25) (fun K hK => ?_)
  refine yo Tryz.func132 (by kernel_rfl) rfl #[.int .i64 3] (by rfl) rfl rfl (by (try simp only [List.map_toArray, List.map_cons, List.map_nil]); first | done | rfl) ?_
  refine (QE _).mono ?_
  rintro e w3 ⟨rfl, hd⟩
  refine ⟨_, rfl, ?_⟩
  have B3 := hQ (ze B2.out B2.out.size hd.below)
  have X3 := hQ (zb X2.out hd.below)
  clear hd
  refine hK.out _ _ ⟨za X3.out 0, za X3.out 1, za X3.out 2, za X3.out 3, za X3.out 4, za X3.out 5, za X3.out 6, za X3.out 7, za X3.out 8, za X3.out 9, za X3.out 10, za X3.out 11, za X3.out 12, za X3.out 13⟩ (fun hHeld => ?_)
  clear hK K
  refine nq_ ?_
  refine pq_ 3 (some 26) ?_
  refine pq_ 4 (some 27) ?_
  refine tq_ 5 (some 28) hHeld ?_
  refine tq_ 7 (some 30) hHeld ?_
  refine oq_ 6 (some 29) (fun K hK => ?_)
  refine yo Tryz.func185 (by kernel_rfl) rfl #[.agg #[.int .i64 3, .int .i64 0, .slice A2 0 c2, .slice A3 l.length c3, .int .i64 0, .int .i64 0, .int .u16 0, .int .u16 0, .int .u16 0, .int .i64 0, .int .i64 0, .bool false, .int .i64 0, .slice A13 0 c13]] (by rfl) rfl rfl (by (try simp only [List.map_toArray, List.map_cons, List.map_nil]); first | done | rfl) ?_
  refine (qI _ 3 0 A2 c2 A3 l.length c3 0 0 A13 c13 (by omega)).mono ?_
  rintro e w4 ⟨rfl, hb⟩
  refine ⟨_, rfl, ?_⟩
  have B4 := hQ (ze B3.out B3.out.size hb)
  have X4 := hQ (zb X3.out hb)
  clear hb
  refine hK.out _ _ ⟨za X4.out 0, za X4.out 1, za X4.out 2, za X4.out 3, za X4.out 4, za X4.out 5, za X4.out 6, za X4.out 7, za X4.out 8, za X4.out 9, za X4.out 10, za X4.out 11, za X4.out 12, za X4.out 13⟩ (fun hHeld => ?_)
  clear hK K
  refine nq_ ?_
  refine oq_ 8 (some 31) (fun K hK => ?_)
  refine yo Tryz.func186 (by kernel_rfl) rfl #[.agg #[.int .i64 3, .int .i64 0, .slice A2 0 c2, .slice A3 l.length c3, .int .i64 0, .int .i64 0, .int .u16 0, .int .u16 0, .int .u16 0, .int .i64 0, .int .i64 0, .bool false, .int .i64 0, .slice A13 0 c13]] (by rfl) rfl rfl (by (try simp only [List.map_toArray, List.map_cons, List.map_nil]); first | done | rfl) ?_
  refine (JE _ A2 c2 A3 l.length c3 A13 c13).mono ?_
  rintro e w5 ⟨rfl, hb⟩
  refine ⟨_, rfl, ?_⟩
  have B5 := hQ (ze B4.out B4.out.size hb)
  have X5 := hQ (zb X4.out hb)
  clear hb
  refine hK.out _ _ ⟨za X5.out 0, za X5.out 1, za X5.out 2, za X5.out 3, za X5.out 4, za X5.out 5, za X5.out 6, za X5.out 7, za X5.out 8, za X5.out 9, za X5.out 10, za X5.out 11, za X5.out 12, za X5.out 13⟩ (fun hHeld => ?_)
  clear hK K
  refine nq_ ?_
  refine oq_ 9 (some 32) (fun K hK => ?_)
  refine yo Tryz.func185 (by kernel_rfl) rfl #[.agg #[.int .i64 3, .int .i64 0, .slice none 0 0, .slice A3 l.length c3, .int .i64 0, .int .i64 0, .int .u16 0, .int .u16 0, .int .u16 0, .int .i64 0, .int .i64 0, .bool false, .int .i64 0, .slice none 0 0]] (by rfl) rfl rfl (by (try simp only [List.map_toArray, List.map_cons, List.map_nil]); first | done | rfl) ?_
  refine (qI _ 3 0 none 0 A3 l.length c3 0 0 none 0 (by omega)).mono ?_
  rintro e w6 ⟨rfl, hb⟩
  refine ⟨_, rfl, ?_⟩
  have B6 := hQ (ze B5.out B5.out.size hb)
  have X6 := hQ (zb X5.out hb)
  clear hb
  refine hK.out _ _ ⟨za X6.out 0, za X6.out 1, za X6.out 2, za X6.out 3, za X6.out 4, za X6.out 5, za X6.out 6, za X6.out 7, za X6.out 8, za X6.out 9, za X6.out 10, za X6.out 11, za X6.out 12, za X6.out 13⟩ (fun hHeld => ?_)
  clear hK K
  refine nq_ ?_
  refine pq_ 10 (some 33) ?_
  refine pq_ 11 (some 34) ?_
  refine pq_ 12 (some 35) ?_
  refine pq_ 13 (some 36) ?_
  refine tq_ 14 (some 37) hHeld ?_
  refine pq_ 15 (some 38) ?_
  refine pq_ 16 (some 39) ?_
  refine pq_ 17 (some 40) ?_
  refine pq_ 18 (some 41) ?_
  refine tq_ 19 (some 42) hHeld ?_
  refine pq_ 20 (some 43) ?_
  refine pq_ 21 (some 44) ?_
  refine xP (by kernel_rfl) ?_
  --ENDR
  go_wp2_with (fail)
  refine (zav _).mono ?_
  rintro e w9 ⟨rfl, hd⟩
  have B9 := hQ (ze B6.out B6.out.size hd.below)
  have X9 := hQ (zb X6.out hd.below)
  clear hd
  obtain ⟨x0, x1, x2, x3, x4, x5, x6, x7, x8, x9, x10, x11, x12, x13⟩ := yn X9.out
  go_wp2_with (fail)
  refine (jv.calls (l.length : Int) 125 true _ (JW _ ⟨by have := HL.out; omega, by have := HL.out; omega⟩)).mono ?_
  rintro e w10 ⟨rfl, hd⟩
  have B10 := hQ (ze B9.out B9.out.size hd.below)
  clear hd
  go_wp2
  exact bodyPost_ret (v := .bool true) (by simp [results, Tryz.results145, go_sem]) rfl ⟨rfl, B10.out⟩
theorem QC (w : World) (a v : Int) (ha : 0 ≤ a ∧ a < 256) (hv : 0 ≤ v ∧ v < 65536) (A2 : Option Addr) (c2 : Nat) (A3 : Option Addr) (c3 : Nat) (A13 : Option Addr) (c13 : Nat) :
    Calls Tryz.prog 145 #[.agg (zI 6 0 (.slice A2 0 c2) (.slice A3 0 c3) a v (.slice A13 0 c13))] w fun e w' => e = .returned (.bool true) ∧ Below w.heap.size w w' := by
  have hu41 := Tryz.underlying41
  have hu274 := Tryz.underlying274
  have heq : ∀ W : World, (Op.equalIn 10000 274 (.agg #[.int .i64 a, .int .i64 0, .int .i64 v, .int .i64 0, .int .i64 0, .int .i64 0, .int .i64 0, .int .i64 0, .int .i64 0, .int .i64 0, .int .i64 0, .int .i64 0]) (.agg #[.int .i64 a, .int .i64 0, .int .i64 v, .int .i64 0, .int .i64 0, .int .i64 0, .int .i64 0, .int .i64 0, .int .i64 0, .int .i64 0, .int .i64 0, .int .i64 0])).run Tryz.prog W = .ok true W := fun W => zam a 0 v 0 0 0 0 0 0 0 0 0 W
  have HA := hQ ha
  have HV := hQ hv
  have ha1 : decide (a < 0) = false := decide_eq_false (by omega)
  have ha2 : decide (a ≥ 65536) = false := decide_eq_false (by omega)
  clear ha hv
  obtain ⟨W2, hW2⟩ : ∃ W2, W2 = (w.alloc (.cells (zI 6 0 (.slice A2 0 c2) (.slice A3 0 c3) a v (.slice A13 0 c13)) 41)).drew := ⟨_, rfl⟩
  have hb2 : Below w.heap.size w W2 := by rw [hW2]; exact ((Below.refl _ _).alloc (Nat.le_refl _) _).trans (zk (Below.refl _ _))
  have B2 := hQ hb2
  have X2 := hQ (show W2.heap[w.heap.size]? = some (.cells (zI 6 0 (.slice A2 0 c2) (.slice A3 0 c3) a v (.slice A13 0 c13)) 41 (0, 0)) by rw [hW2]; exact zb (zi w _) (zk (Below.refl _ _)))
  rw [hW2] at B2 X2
  clear hb2 hW2
  simp only [zI] at B2 X2 ⊢
  go_enter Tryz.func145, Tryz.ntmps145
  go_wp2_with (fail)
  refine sq_ (ds := []) #[false, false, false, false, false, false, false, false, false, false, false, false, false, false, false, false, false, false, false, false, false, false] (fun w' => w'.cell? ⟨w.heap.size, 0, none⟩ = some (.int .i64 6) ∧ w'.cell? ⟨w.heap.size, 1, none⟩ = some (.int .i64 0) ∧ w'.cell? ⟨w.heap.size, 2, none⟩ = some (.slice A2 0 c2) ∧ w'.cell? ⟨w.heap.size, 3, none⟩ = some (.slice A3 0 c3) ∧ w'.cell? ⟨w.heap.size, 4, none⟩ = some (.int .i64 a) ∧ w'.cell? ⟨w.heap.size, 5, none⟩ = some (.int .i64 0) ∧ w'.cell? ⟨w.heap.size, 6, none⟩ = some (.int .u16 v) ∧ w'.cell? ⟨w.heap.size, 7, none⟩ = some (.int .u16 0) ∧ w'.cell? ⟨w.heap.size, 8, none⟩ = some (.int .u16 0) ∧ w'.cell? ⟨w.heap.size, 9, none⟩ = some (.int .i64 0) ∧ w'.cell? ⟨w.heap.size, 10, none⟩ = some (.int .i64 0) ∧ w'.cell? ⟨w.heap.size, 11, none⟩ = some (.bool false) ∧ w'.cell? ⟨w.heap.size, 12, none⟩ = some (.int .i64 0) ∧ w'.cell? ⟨w.heap.size, 13, none⟩ = some (.slice A13 0 c13)) ⟨za X2.out 0, za X2.out 1, za X2.out 2, za X2.out 3, za X2.out 4, za X2.out 5, za X2.out 6, za X2.out 7, za X2.out 8, za X2.out 9, za X2.out 10, za X2.out 11, za X2.out 12, za X2.out 13⟩ (fun hHeld => ?_)
  refine pq_ 0 (some 23) ?_
  refine tq_ 1 (some 24) hHeld ?_
  refine oq_ 2 (some 25) (fun K hK => ?_)
  refine yo Tryz.func132 (by kernel_rfl) rfl #[.int .i64 6] (by rfl) rfl rfl (by (try simp only [List.map_toArray, List.map_cons, List.map_nil]); first | done | rfl) ?_
  refine (Qz _).mono ?_
  rintro e w3 ⟨rfl, hd⟩
  refine ⟨_, rfl, ?_⟩
  have B3 := hQ (ze B2.out B2.out.size hd.below)
  have X3 := hQ (zb X2.out hd.below)
  clear hd
  refine hK.out _ _ ⟨za X3.out 0, za X3.out 1, za X3.out 2, za X3.out 3, za X3.out 4, za X3.out 5, za X3.out 6, za X3.out 7, za X3.out 8, za X3.out 9, za X3.out 10, za X3.out 11, za X3.out 12, za X3.out 13⟩ (fun hHeld => ?_)
  clear hK K
  refine nq_ ?_
  refine pq_ 3 (some 26) ?_
  refine pq_ 4 (some 27) ?_
  refine tq_ 5 (some 28) hHeld ?_
  refine tq_ 7 (some 30) hHeld ?_
  refine oq_ 6 (some 29) (fun K hK => ?_)
  refine yo Tryz.func185 (by kernel_rfl) rfl #[.agg #[.int .i64 6, .int .i64 0, .slice A2 0 c2, .slice A3 0 c3, .int .i64 a, .int .i64 0, .int .u16 v, .int .u16 0, .int .u16 0, .int .i64 0, .int .i64 0, .bool false, .int .i64 0, .slice A13 0 c13]] (by rfl) rfl rfl (by (try simp only [List.map_toArray, List.map_cons, List.map_nil]); first | done | rfl) ?_
  refine (qI _ 6 0 A2 c2 A3 0 c3 a v A13 c13 HV.out).mono ?_
  rintro e w4 ⟨rfl, hb⟩
  refine ⟨_, rfl, ?_⟩
  have B4 := hQ (ze B3.out B3.out.size hb)
  have X4 := hQ (zb X3.out hb)
  clear hb
  refine hK.out _ _ ⟨za X4.out 0, za X4.out 1, za X4.out 2, za X4.out 3, za X4.out 4, za X4.out 5, za X4.out 6, za X4.out 7, za X4.out 8, za X4.out 9, za X4.out 10, za X4.out 11, za X4.out 12, za X4.out 13⟩ (fun hHeld => ?_)
  clear hK K
  refine nq_ ?_
  refine oq_ 8 (some 31) (fun K hK => ?_)
  refine yo Tryz.func186 (by kernel_rfl) rfl #[.agg #[.int .i64 6, .int .i64 0, .slice A2 0 c2, .slice A3 0 c3, .int .i64 a, .int .i64 0, .int .u16 v, .int .u16 0, .int .u16 0, .int .i64 0, .int .i64 0, .bool false, .int .i64 0, .slice A13 0 c13]] (by rfl) rfl rfl (by (try simp only [List.map_toArray, List.map_cons, List.map_nil]); first | done | rfl) ?_
  refine (JM _ a v A2 c2 A3 0 c3 A13 c13).mono ?_
  rintro e w5 ⟨rfl, hb⟩
  refine ⟨_, rfl, ?_⟩
  have B5 := hQ (ze B4.out B4.out.size hb)
  have X5 := hQ (zb X4.out hb)
  clear hb
  refine hK.out _ _ ⟨za X5.out 0, za X5.out 1, za X5.out 2, za X5.out 3, za X5.out 4, za X5.out 5, za X5.out 6, za X5.out 7, za X5.out 8, za X5.out 9, za X5.out 10, za X5.out 11, za X5.out 12, za X5.out 13⟩ (fun hHeld => ?_)
  clear hK K
  refine nq_ ?_
  refine oq_ 9 (some 32) (fun K hK => ?_)
  refine yo Tryz.func185 (by kernel_rfl) rfl #[.agg #[.int .i64 6, .int .i64 0, .slice none 0 0, .slice none 0 0, .int .i64 a, .int .i64 0, .int .u16 v, .int .u16 0, .int .u16 0, .int .i64 0, .int .i64 0, .bool false, .int .i64 0, .slice none 0 0]] (by rfl) rfl rfl (by (try simp only [List.map_toArray, List.map_cons, List.map_nil]); first | done | rfl) ?_
  refine (qI _ 6 0 none 0 none 0 0 a v none 0 HV.out).mono ?_
  rintro e w6 ⟨rfl, hb⟩
  refine ⟨_, rfl, ?_⟩
  have B6 := hQ (ze B5.out B5.out.size hb)
  have X6 := hQ (zb X5.out hb)
  clear hb
  refine hK.out _ _ ⟨za X6.out 0, za X6.out 1, za X6.out 2, za X6.out 3, za X6.out 4, za X6.out 5, za X6.out 6, za X6.out 7, za X6.out 8, za X6.out 9, za X6.out 10, za X6.out 11, za X6.out 12, za X6.out 13⟩ (fun hHeld => ?_)
  clear hK K
  refine nq_ ?_
  refine pq_ 10 (some 33) ?_
  refine pq_ 11 (some 34) ?_
  refine pq_ 12 (some 35) ?_
  refine pq_ 13 (some 36) ?_
  refine tq_ 14 (some 37) hHeld ?_
  refine pq_ 15 (some 38) ?_
  refine pq_ 16 (some 39) ?_
  refine pq_ 17 (some 40) ?_
  refine pq_ 18 (some 41) ?_
  refine tq_ 19 (some 42) hHeld ?_
  refine pq_ 20 (some 43) ?_
  refine pq_ 21 (some 44) ?_
  refine xP (by kernel_rfl) ?_
  --ENDW
  go_wp2_with (fail)
  refine (za1 _).mono ?_
  rintro e w9 ⟨rfl, hd⟩
  have B9 := hQ (ze B6.out B6.out.size hd.below)
  have X9 := hQ (zb X6.out hd.below)
  clear hd
  obtain ⟨x0, x1, x2, x3, x4, x5, x6, x7, x8, x9, x10, x11, x12, x13⟩ := yn X9.out
  go_wp2
  exact bodyPost_ret (v := .bool true) (by simp [results, Tryz.results145, go_sem]) rfl ⟨rfl, B9.out⟩
theorem Qc (w : World)  (A2 : Option Addr) (c2 : Nat) (A3 : Option Addr) (c3 : Nat) (A13 : Option Addr) (c13 : Nat)  :
    Calls Tryz.prog 145 #[.agg (zI 6 4 (.slice A2 0 c2) (.slice A3 0 c3) 0 0 (.slice A13 0 c13))] w fun e w' => e = .returned (.bool true) ∧ Below w.heap.size w w' := by
  have hu41 := Tryz.underlying41
  have hu274 := Tryz.underlying274
  have heq : ∀ W : World, (Op.equalIn 10000 274 (.agg #[.int .i64 0, .int .i64 0, .int .i64 0, .int .i64 0, .int .i64 0, .int .i64 0, .int .i64 0, .int .i64 0, .int .i64 0, .int .i64 0, .int .i64 0, .int .i64 0]) (.agg #[.int .i64 0, .int .i64 0, .int .i64 0, .int .i64 0, .int .i64 0, .int .i64 0, .int .i64 0, .int .i64 0, .int .i64 0, .int .i64 0, .int .i64 0, .int .i64 0])).run Tryz.prog W = .ok true W := fun W => zam 0 0 0 0 0 0 0 0 0 0 0 0 W
  obtain ⟨W2, hW2⟩ : ∃ W2, W2 = (w.alloc (.cells (zI 6 4 (.slice A2 0 c2) (.slice A3 0 c3) 0 0 (.slice A13 0 c13)) 41)) := ⟨_, rfl⟩
  have hb2 : Below w.heap.size w W2 := by rw [hW2]; exact (Below.refl _ _).alloc (Nat.le_refl _) _
  have B2 := hQ hb2
  have X2 := hQ (show W2.heap[w.heap.size]? = some (.cells (zI 6 4 (.slice A2 0 c2) (.slice A3 0 c3) 0 0 (.slice A13 0 c13)) 41 (0, 0)) by rw [hW2]; exact zi w _)
  rw [hW2] at B2 X2
  clear hb2 hW2
  simp only [zI] at B2 X2 ⊢
  go_enter Tryz.func145, Tryz.ntmps145
  go_wp2_with (fail)
  refine (jV.calls 4 true _ rfl).mono ?_
  rintro e w3 ⟨rfl, hd⟩
  have B3 := hQ (ze B2.out B2.out.size hd.below)
  have X3 := hQ (zb X2.out hd.below)
  clear hd
  obtain ⟨x0, x1, x2, x3, x4, x5, x6, x7, x8, x9, x10, x11, x12, x13⟩ := yn X3.out
  go_wp2_with (fail)
  refine (kZ.calls 6 true _ rfl).mono ?_
  rintro e w4 ⟨rfl, hd⟩
  have B4 := hQ (ze B3.out B3.out.size hd.below)
  have X4 := hQ (zb X3.out hd.below)
  clear hd x0 x1 x2 x3 x4 x5 x6 x7 x8 x9 x10 x11 x12 x13
  obtain ⟨x0, x1, x2, x3, x4, x5, x6, x7, x8, x9, x10, x11, x12, x13⟩ := yn X4.out
  go_wp2_with (fail)
  refine (qI _ 6 4 A2 c2 A3 0 c3 0 0 A13 c13 (by omega)).mono ?_
  rintro e w5 ⟨rfl, hb⟩
  have B5 := hQ (ze B4.out B4.out.size hb)
  clear hb x0 x1 x2 x3 x4 x5 x6 x7 x8 x9 x10 x11 x12 x13
  go_wp2_with (fail)
  refine (qI _ 0 0 none 0 none 0 0 0 0 none 0 (by omega)).mono ?_
  rintro e w6 ⟨rfl, hb⟩
  have B6 := hQ (ze B5.out B5.out.size hb)
  go_wp2
  exact bodyPost_ret (v := .bool true) (by simp [results, Tryz.results145, go_sem]) rfl ⟨rfl, B6.out⟩
end Go.Proofs.YtlalbohhopmpdaaGreat.Top
namespace Go.Proofs.YtlalbohhopmpdaaGreat.PTop
open Go.RowKit Go.YW.PrintWords Go.YW.PrintLast Go.YW.PrintMore
attribute [local go_sem] yU yT xE xC xe yZ xJ xK zm zu   -- for this text's walks alone
mutual
def yj.j0 : Nat → Int → Bool → Option (Int × Bool)
 | 0, _, _ => none
 | k + 1, x4, x5 => if x5 = true then (some (0, true)) else (if x4 = 2 then (some (1, true)) else (if x4 = 3 then (yj.j1 k x4 (x4 == 3)) else (if x4 = 6 then (yj.j1 k x4 (x4 == 6)) else (if x4 = 16 then (yj.j1 k x4 (x4 == 16)) else (if x4 = 22 then (yj.j1 k x4 (x4 == 22)) else (yj.j1 k x4 (x4 == 23)))))))
def yj.j1 : Nat → Int → Bool → Option (Int × Bool)
 | 0, _, _ => none
 | k + 1, x4, x11 => if x11 = true then (some (2, true)) else (if x4 = 4 then (some (3, true)) else (some (0, false)))
end
def yj.f (k : Nat) (a0 : Int) : Option (Int × Bool) := if a0 = 1 then (yj.j0 k a0 (a0 == 1)) else (if a0 = 5 then (yj.j0 k a0 (a0 == 5)) else (yj.j0 k a0 (a0 == 15)))
theorem yj.calls (k : Nat) (a0 : Int) (r1 : Int) (r2 : Bool) (w : World) (h : yj.f k a0 = some (r1, r2)) :
  Calls Tryz.prog 160 #[.int .i64 a0] w fun e w' => e = .returned (.tuple #[.int .i64 r1, .bool r2]) ∧ zx w w' := by
 have H : (if a0 = 1 then (yj.j0 k a0 (a0 == 1)) else (if a0 = 5 then (yj.j0 k a0 (a0 == 5)) else (yj.j0 k a0 (a0 == 15)))) = some (r1, r2) := h
 clear h
 have HC2 := zf.mk H
 clear H
 go_enter Tryz.func160, Tryz.ntmps160
 go_upto_if 5 with (fail)
 go_cut [5] (fun v5 wc => ∃ (kq : Nat) (x5_1 : Bool), v5 = .bool x5_1 ∧ zf (yj.j0 kq a0 x5_1 = some (r1, r2)) ∧ zf (kq ≤ k) ∧ zx w wc)
 case first =>
  have H := HC2.out
  clear HC2
  by_cases c3 : a0 = 1
  ·
   rw [if_pos c3] at H
   have c3b0 : (a0 == 1) = true := beq_iff_eq.mpr c3
   have c3b1 : (a0 != 1) = false := bne_eq_false_iff_eq.mpr c3
   clear c3
   (first | rw [c3b0] | (simp only [yX, xN]; rw [c3b0]) | skip)
   have H' := zf.mk H
   clear H
   go_wp2
   go_meet
   case rel => exact ⟨_, ((a0 == 1)), (by first | rfl | (simp; done) | (simp [*]; done)), H', ⟨by first | omega | exact Nat.le_refl _⟩, by repeat (first | exact zx.refl _ | apply zx.step)⟩
  ·
   rw [if_neg c3] at H
   have c3b0 : (a0 == 1) = false := beq_eq_false_iff_ne.mpr c3
   have c3b1 : (a0 != 1) = true := bne_iff_ne.mpr c3
   (first | rw [c3b0] | (simp only [yX, xN]; rw [c3b0]) | skip)
   by_cases c4 : a0 = 5
   ·
    rw [if_pos c4] at H
    have c4b0 : (a0 == 5) = true := beq_iff_eq.mpr c4
    have c4b1 : (a0 != 5) = false := bne_eq_false_iff_eq.mpr c4
    clear c4
    have H' := zf.mk H
    clear H
    go_wp2
    go_meet
    case rel => exact ⟨_, ((a0 == 5)), (by first | rfl | (simp; done) | (simp [*]; done)), H', ⟨by first | omega | exact Nat.le_refl _⟩, by repeat (first | exact zx.refl _ | apply zx.step)⟩
   ·
    rw [if_neg c4] at H
    have c4b0 : (a0 == 5) = false := beq_eq_false_iff_ne.mpr c4
    have c4b1 : (a0 != 5) = true := bne_iff_ne.mpr c4
    have H' := zf.mk H
    clear H
    go_wp2
    go_meet
    case rel => exact ⟨_, ((a0 == 15)), (by first | rfl | (simp; done) | (simp [*]; done)), H', ⟨by first | omega | exact Nat.le_refl _⟩, by repeat (first | exact zx.refl _ | apply zx.step)⟩
 case rest =>
  clear HC2
  obtain ⟨kq, x5_1, rfl, HA, HJ1, ⟨mc1, rfl⟩⟩ := hcut
  cases kq with
  | zero => exact absurd HA.out (by simp [yj.j0])
  | succ kj1 =>
   have H := HA.out
   clear HA
   simp only [yj.j0] at H
   by_cases c5 : x5_1 = true
   ·
    subst c5
    have H1 : (some (0, true)) = some (r1, r2) := by rw [if_pos rfl] at H; exact H
    clear H
    have H := H1
    clear H1
    simp only [Option.some.injEq, Prod.mk.injEq] at H
    obtain ⟨rfl, rfl⟩ := H
    go_wp2
    go_ret2
    exact ⟨by first | rfl | (simp; done) | (simp [*]; done), by repeat (first | exact zx.refl _ | apply zx.step)⟩
   ·
    replace c5 := Bool.eq_false_iff.mpr c5
    subst c5
    have H1 : (if a0 = 2 then (some (1, true)) else (if a0 = 3 then (yj.j1 kj1 a0 (a0 == 3)) else (if a0 = 6 then (yj.j1 kj1 a0 (a0 == 6)) else (if a0 = 16 then (yj.j1 kj1 a0 (a0 == 16)) else (if a0 = 22 then (yj.j1 kj1 a0 (a0 == 22)) else (yj.j1 kj1 a0 (a0 == 23))))))) = some (r1, r2) := by rw [if_neg (show ¬ (false = true) by decide)] at H; exact H
    clear H
    have H := H1
    clear H1
    by_cases c6 : a0 = 2
    ·
     rw [if_pos c6] at H
     have c6b0 : (a0 == 2) = true := beq_iff_eq.mpr c6
     have c6b1 : (a0 != 2) = false := bne_eq_false_iff_eq.mpr c6
     clear c6
     simp only [Option.some.injEq, Prod.mk.injEq] at H
     obtain ⟨rfl, rfl⟩ := H
     go_wp2
     go_ret2
     exact ⟨by first | rfl | (simp; done) | (simp [*]; done), by repeat (first | exact zx.refl _ | apply zx.step)⟩
    ·
     rw [if_neg c6] at H
     have c6b0 : (a0 == 2) = false := beq_eq_false_iff_ne.mpr c6
     have c6b1 : (a0 != 2) = true := bne_iff_ne.mpr c6
     have HC7 := zf.mk H
     clear H
     go_upto_if 11 with (fail)
     go_cut [11] (fun v11 wc => ∃ (kq : Nat) (x11_6 : Bool), v11 = .bool x11_6 ∧ zf (yj.j1 kq a0 x11_6 = some (r1, r2)) ∧ zf (kq ≤ kj1) ∧ zx w wc)
     case first =>
      have H := HC7.out
      clear HC7
      by_cases c8 : a0 = 3
      ·
       rw [if_pos c8] at H
       have c8b0 : (a0 == 3) = true := beq_iff_eq.mpr c8
       have c8b1 : (a0 != 3) = false := bne_eq_false_iff_eq.mpr c8
       clear c8
       (first | rw [c8b0] | (simp only [yX, xN]; rw [c8b0]) | skip)
       have H' := zf.mk H
       clear H
       go_wp2
       go_meet
       case rel => exact ⟨_, ((a0 == 3)), (by first | rfl | (simp; done) | (simp [*]; done)), H', ⟨by have := HJ1.out; first | omega | exact Nat.le_refl _⟩, by repeat (first | exact zx.refl _ | apply zx.step)⟩
      ·
       rw [if_neg c8] at H
       have c8b0 : (a0 == 3) = false := beq_eq_false_iff_ne.mpr c8
       have c8b1 : (a0 != 3) = true := bne_iff_ne.mpr c8
       (first | rw [c8b0] | (simp only [yX, xN]; rw [c8b0]) | skip)
       by_cases c9 : a0 = 6
       ·
        rw [if_pos c9] at H
        have c9b0 : (a0 == 6) = true := beq_iff_eq.mpr c9
        have c9b1 : (a0 != 6) = false := bne_eq_false_iff_eq.mpr c9
        clear c9
        have H' := zf.mk H
        clear H
        go_wp2
        go_meet
        case rel => exact ⟨_, ((a0 == 6)), (by first | rfl | (simp; done) | (simp [*]; done)), H', ⟨by have := HJ1.out; first | omega | exact Nat.le_refl _⟩, by repeat (first | exact zx.refl _ | apply zx.step)⟩
       ·
        rw [if_neg c9] at H
        have c9b0 : (a0 == 6) = false := beq_eq_false_iff_ne.mpr c9
        have c9b1 : (a0 != 6) = true := bne_iff_ne.mpr c9
        by_cases c10 : a0 = 16
        ·
         rw [if_pos c10] at H
         have c10b0 : (a0 == 16) = true := beq_iff_eq.mpr c10
         have c10b1 : (a0 != 16) = false := bne_eq_false_iff_eq.mpr c10
         clear c10
         have H' := zf.mk H
         clear H
         go_wp2
         go_meet
         case rel => exact ⟨_, ((a0 == 16)), (by first | rfl | (simp; done) | (simp [*]; done)), H', ⟨by have := HJ1.out; first | omega | exact Nat.le_refl _⟩, by repeat (first | exact zx.refl _ | apply zx.step)⟩
        ·
         rw [if_neg c10] at H
         have c10b0 : (a0 == 16) = false := beq_eq_false_iff_ne.mpr c10
         have c10b1 : (a0 != 16) = true := bne_iff_ne.mpr c10
         by_cases c11 : a0 = 22
         ·
          rw [if_pos c11] at H
          have c11b0 : (a0 == 22) = true := beq_iff_eq.mpr c11
          have c11b1 : (a0 != 22) = false := bne_eq_false_iff_eq.mpr c11
          clear c11
          have H' := zf.mk H
          clear H
          go_wp2
          go_meet
          case rel => exact ⟨_, ((a0 == 22)), (by first | rfl | (simp; done) | (simp [*]; done)), H', ⟨by have := HJ1.out; first | omega | exact Nat.le_refl _⟩, by repeat (first | exact zx.refl _ | apply zx.step)⟩
         ·
          rw [if_neg c11] at H
          have c11b0 : (a0 == 22) = false := beq_eq_false_iff_ne.mpr c11
          have c11b1 : (a0 != 22) = true := bne_iff_ne.mpr c11
          have H' := zf.mk H
          clear H
          go_wp2
          go_meet
          case rel => exact ⟨_, ((a0 == 23)), (by first | rfl | (simp; done) | (simp [*]; done)), H', ⟨by have := HJ1.out; first | omega | exact Nat.le_refl _⟩, by repeat (first | exact zx.refl _ | apply zx.step)⟩
     case rest =>
      clear HC7
      (try clear c6); (try clear c6b0); (try clear c6b1)
      obtain ⟨kq, x11_6, rfl, HA, HJ6, ⟨mc6, rfl⟩⟩ := hcut
      cases kq with
      | zero => exact absurd HA.out (by simp [yj.j1])
      | succ kj6 =>
       have H := HA.out
       clear HA
       simp only [yj.j1] at H
       by_cases c12 : x11_6 = true
       ·
        subst c12
        have H1 : (some (2, true)) = some (r1, r2) := by rw [if_pos rfl] at H; exact H
        clear H
        have H := H1
        clear H1
        simp only [Option.some.injEq, Prod.mk.injEq] at H
        obtain ⟨rfl, rfl⟩ := H
        go_wp2
        go_ret2
        exact ⟨by first | rfl | (simp; done) | (simp [*]; done), by repeat (first | exact zx.refl _ | apply zx.step)⟩
       ·
        replace c12 := Bool.eq_false_iff.mpr c12
        subst c12
        have H1 : (if a0 = 4 then (some (3, true)) else (some (0, false))) = some (r1, r2) := by rw [if_neg (show ¬ (false = true) by decide)] at H; exact H
        clear H
        have H := H1
        clear H1
        by_cases c13 : a0 = 4
        ·
         rw [if_pos c13] at H
         have c13b0 : (a0 == 4) = true := beq_iff_eq.mpr c13
         have c13b1 : (a0 != 4) = false := bne_eq_false_iff_eq.mpr c13
         clear c13
         simp only [Option.some.injEq, Prod.mk.injEq] at H
         obtain ⟨rfl, rfl⟩ := H
         go_wp2
         go_ret2
         exact ⟨by first | rfl | (simp; done) | (simp [*]; done), by repeat (first | exact zx.refl _ | apply zx.step)⟩
        ·
         rw [if_neg c13] at H
         have c13b0 : (a0 == 4) = false := beq_eq_false_iff_ne.mpr c13
         have c13b1 : (a0 != 4) = true := bne_iff_ne.mpr c13
         simp only [Option.some.injEq, Prod.mk.injEq] at H
         obtain ⟨rfl, rfl⟩ := H
         go_wp2
         go_ret2
         exact ⟨by first | rfl | (simp; done) | (simp [*]; done), by repeat (first | exact zx.refl _ | apply zx.step)⟩
def xg.f (l0 : List Int) (a1 : Int) : Option (List Int) := if 0 ≤ (wrap64 ((l0.length : Int) + 2)) then (if (wrap64 ((l0.length : Int) + 2) : Int).toNat ≤ 281474976710656 then ((some (List.replicate 0 0 : List Int)).bind fun y343 => (if y343.length + l0.length < 140737488355328 then ((some (y343 ++ l0 : List Int)).bind fun y346 => ((some (([(a1 / 256) % 256, (a1) % 256] : List Int) : List Int)).bind fun y349 => (if y346.length + y349.length < 140737488355328 then (some (y346 ++ y349)) else (none)))) else (none))) else (none)) else (none)
theorem xg.calls (A0 : Option Addr) (c0 : Nat) (l0 : List Int) (a1 : Int) (r : List Int) (w : World) (hr0 : Kd.C (Kd.int .u8) w A0 l0.length l0) (hc0 : l0.length ≤ c0) (h : xg.f l0 a1 = some r) :
  Calls Tryz.prog 150 #[.slice A0 l0.length c0, .int .u16 a1] w fun e w' => ∃ v0_ : Value, e = .returned (v0_) ∧ Kd.R (Kd.int .u8) 5 w' w.heap.size (fun _ => True) v0_ r ∧ Below w.heap.size w w' := by
 have HR0 := zf.mk hr0
 have HC0 := zf.mk hc0
 clear hr0 hc0
 have HB := zf.mk (Below.refl w.heap.size w)
 have H : (if 0 ≤ (wrap64 ((l0.length : Int) + 2)) then (if (wrap64 ((l0.length : Int) + 2) : Int).toNat ≤ 281474976710656 then ((some (List.replicate 0 0 : List Int)).bind fun y343 => (if y343.length + l0.length < 140737488355328 then ((some (y343 ++ l0 : List Int)).bind fun y346 => ((some (([(a1 / 256) % 256, (a1) % 256] : List Int) : List Int)).bind fun y349 => (if y346.length + y349.length < 140737488355328 then (some (y346 ++ y349)) else (none)))) else (none))) else (none)) else (none)) = some r := h
 clear h
 obtain ⟨ji3, hji3⟩ : ∃ j_ : Int, (wrap64 ((l0.length : Int) + 2)) = j_ := ⟨_, rfl⟩
 replace H : (if 0 ≤ (ji3) then (if (ji3 : Int).toNat ≤ 281474976710656 then ((some (List.replicate 0 0 : List Int)).bind fun y343 => (if y343.length + l0.length < 140737488355328 then ((some (y343 ++ l0 : List Int)).bind fun y346 => ((some (([(a1 / 256) % 256, (a1) % 256] : List Int) : List Int)).bind fun y349 => (if y346.length + y349.length < 140737488355328 then (some (y346 ++ y349)) else (none)))) else (none))) else (none)) else (none)) = some r := by first | (rw [hji3] at H; exact H) | (simp only [hji3] at H ⊢; exact H)
 have hji3w : (IntKind.i64.wrap ((l0.length : Int) + 2)) = ji3 := (yX _).trans hji3
 by_cases c4 : 0 ≤ (ji3)
 ·
  rw [if_pos c4] at H
  have c4b0 := eq_true c4
  have c4b1 : decide (0 ≤ (ji3)) = true := dT c4
  clear c4
  by_cases c5 : (ji3 : Int).toNat ≤ 281474976710656
  ·
   rw [if_pos c5] at H
   have c5b0 := eq_true c5
   have c5b1 : decide ((ji3 : Int).toNat ≤ 281474976710656) = true := dT c5
   clear c5
   obtain ⟨y343, hy343⟩ : ∃ y_ : List Int, y_ = (List.replicate 0 0) := ⟨_, rfl⟩
   replace H : (if y343.length + l0.length < 140737488355328 then ((some (y343 ++ l0 : List Int)).bind fun y346 => ((some (([(a1 / 256) % 256, (a1) % 256] : List Int) : List Int)).bind fun y349 => (if y346.length + y349.length < 140737488355328 then (some (y346 ++ y349)) else (none)))) else (none)) = some r := by first | (rw [hy343]; with_reducible exact H) | (have H2_ := (Option.bind_some _ _).symm.trans H; rw [hy343]; with_reducible exact H2_) | (have H2_ := (Option.bind_some _ _).symm.trans H; with_reducible exact H2_) | with_reducible exact H | (rw [hy343]; exact H) | exact H
   have Ny343 := zf.mk hy343
   clear hy343
   by_cases c6 : y343.length + l0.length < 140737488355328
   ·
    rw [if_pos c6] at H
    have LMc6 := zf.mk c6
    clear c6
    obtain ⟨y346, hy346⟩ : ∃ y_ : List Int, y_ = (y343 ++ l0) := ⟨_, rfl⟩
    replace H : ((some (([(a1 / 256) % 256, (a1) % 256] : List Int) : List Int)).bind fun y349 => (if y346.length + y349.length < 140737488355328 then (some (y346 ++ y349)) else (none))) = some r := by first | (rw [hy346]; with_reducible exact H) | (have H2_ := (Option.bind_some _ _).symm.trans H; rw [hy346]; with_reducible exact H2_) | (have H2_ := (Option.bind_some _ _).symm.trans H; with_reducible exact H2_) | with_reducible exact H | (rw [hy346]; exact H) | exact H
    have Ny346 := zf.mk hy346
    clear hy346
    obtain ⟨y349, hy349⟩ : ∃ y_ : List Int, y_ = (([(a1 / 256) % 256, (a1) % 256] : List Int)) := ⟨_, rfl⟩
    replace H : (if y346.length + y349.length < 140737488355328 then (some (y346 ++ y349)) else (none)) = some r := by first | (rw [hy349]; with_reducible exact H) | (have H2_ := (Option.bind_some _ _).symm.trans H; rw [hy349]; with_reducible exact H2_) | (have H2_ := (Option.bind_some _ _).symm.trans H; with_reducible exact H2_) | with_reducible exact H | (rw [hy349]; exact H) | exact H
    have Ny349 := zf.mk hy349
    clear hy349
    by_cases c7 : y346.length + y349.length < 140737488355328
    ·
     rw [if_pos c7] at H
     have LMc7 := zf.mk c7
     clear c7
     obtain ⟨y352, hy352⟩ : ∃ y_ : List Int, y_ = (y346 ++ y349) := ⟨_, rfl⟩
     replace H : (some y352) = some r := by first | (rw [hy352]; with_reducible exact H) | (have H2_ := (Option.bind_some _ _).symm.trans H; rw [hy352]; with_reducible exact H2_) | (have H2_ := (Option.bind_some _ _).symm.trans H; with_reducible exact H2_) | with_reducible exact H | (rw [hy352]; exact H) | exact H
     have Ny352 := zf.mk hy352
     clear hy352
     obtain rfl := Option.some.inj H
     go_enter Tryz.func150, Tryz.ntmps150
     go_wp2_with (first | ((with_reducible refine zS (N := 9) rfl ?_); refine Kd.Vn (Kd.int .u8) _ 5 rfl (N := 9) rfl 59 _ _ rfl ji3 rfl rfl Tryz.underlying59 (.int .u8 0) 1 info5 rfl (by decide) (by omega) 0 (ok := fun _ => True) (okp := fun _ => True) rfl (fun _ hk => hk) trivial (of_decide_eq_true (by first | (with_reducible assumption) | assumption)) (Nat.le_trans (Nat.mul_le_mul_right _ (of_decide_eq_true (by first | (with_reducible assumption) | assumption) : ji3.toNat ≤ 281474976710656)) (by omega)) (Below.refl _ _) (Nat.le_refl _) ?_; intro v344 w8 ho9 hb hg_ hnew_; clear hg_ hnew_; (first | rw [← Ny343.out] at ho9 | (simp only [Int.reduceToNat] at ho9; rw [← Ny343.out] at ho9)); have HO345 := zf.mk (Kd.zU ho9 (zq (HB.out))); replace HB := zf.mk (zH (HB.out) hb); clear hb ho9) | ((with_reducible refine zZ (b := .append) (xs := #[.tmp 10, .tmp 11]) rfl ?_); at_builtin; refine Kd.yA (Kd.int .u8) (w0 := w) w.heap.size rfl (.tmp 10) (.tmp 11) 59 5 (.int .u8 0) 1 rfl Tryz.underlying59 info5 rfl (by decide) (by omega) v344 y343 l0 _ _ _ (fun _ => True) (fun _ => False) rfl rfl ?aO ?aR (fun _ _ h => h) (fun _ h => h.elim) ?aF ?aB ?aS ?aL ?_; (case aR => repeat (first | exact (Kd.zz HR0.out HB.out) | (with_reducible refine Kd.yF ?_ _) | (with_reducible refine Kd.yH ?_ _) | (with_reducible refine Kd.yV ?_))); (case aB => exact (HB.out)); (case aF => exact (fun _ _ => trivial)); (case aO => exact (HO345.out)); (case aS => exact (zq (HB.out))); (case aL => have := LMc6.out; omega); intro v347 w10 ho hb hg hat; rw [← Ny346.out] at ho; replace HB := zf.mk (hb); have HO348 := zf.mk (ho); clear HO345; clear ho hb hg hat) | ((with_reducible refine zS (N := 19) rfl ?_); refine Kd.kU (Kd.int .u8) _ 5 ?hg (N := 19) ?hd (xs := ([(a1 / 256) % 256, (a1) % 256] : List Int)) (inner := [.int .u8 ((a1 / 256) % 256), .int .u8 ((a1) % 256)]) (ok := fun _ => True) (okp := fun _ => True) ?hr ?hp (fun _ hk => hk) trivial (Below.refl _ _) (Nat.le_refl _) (by simp) ?_; (case hd => rfl); (case hg => rfl); (case hr => first | (go_simp; done) | (go_simp; rfl)); (case hp => exact (yK.one (show Kd.M (Kd.int .u8) _ _ _ ((a1 / 256) % 256) [.int .u8 ((a1 / 256) % 256)] from rfl) (yK.one (show Kd.M (Kd.int .u8) _ _ _ ((a1) % 256) [.int .u8 ((a1) % 256)] from rfl) (yK.none _ _)))); intro v350 w11 ho12 hb hg_ hnew_; clear hg_ hnew_; (first | rw [← Ny349.out] at ho12 | (simp only [Int.reduceToNat] at ho12; rw [← Ny349.out] at ho12)); have HO351 := zf.mk (Kd.zU (Kd.ZV ho12 (Kd.YN (HO348.out))) (zq (HB.out))); replace HO348 := zf.mk (Kd.kF (HO348.out) (Kd.kC ho12) hb); replace HB := zf.mk (zH (HB.out) hb); clear hb ho12; obtain ⟨Ao14, co14, eo14⟩ := Kd.zX HO351.out; subst eo14) | ((with_reducible refine zZ (b := .append) (xs := #[.tmp 13, .tmp 19]) rfl ?_); at_builtin; refine Kd.yA (Kd.int .u8) (w0 := w) w.heap.size rfl (.tmp 13) (.tmp 19) 59 5 (.int .u8 0) 1 rfl Tryz.underlying59 info5 rfl (by decide) (by omega) v347 y346 y349 _ _ _ (fun k_ => some k_ ≠ (.slice Ao14 y349.length co14 : Value).ownBlock) (fun _ => False) rfl rfl ?aO ?aR (fun _ _ h => h) (fun _ h => h.elim) ?aF ?aB ?aS ?aL ?_; (case aR => repeat (first | exact (Kd.zw HO351.out).2.2 | (with_reducible refine Kd.yF ?_ _) | (with_reducible refine Kd.yH ?_ _) | (with_reducible refine Kd.yV ?_))); (case aB => exact (HB.out)); (case aF => exact (fun k_ hk => Kd.fresh' (Kd.YN (HO351.out)) k_ hk)); (case aO => exact (Kd.yQ HO348.out (fun _ hk => by first | exact hk.2 | exact hk))); (case aS => exact (zq (HB.out))); (case aL => have := LMc7.out; omega); intro v353 w13 ho hb hg hat; rw [← Ny352.out] at ho; replace HO351 := zf.mk (Kd.vF (ok := (fun _ => True)) (HO351.out) hg hat); replace HB := zf.mk (hb); have HO354 := zf.mk (ho); clear HO348; clear ho hb hg hat))
     go_ret
     exact ⟨_, by first | rfl | (simp [zD, zC] <;> rfl) | (simp only [← hji3]; first | rfl | (simp [zD, zC] <;> rfl)) | (simp [*, zD, zC] <;> rfl), Kd.yQ HO354.out (fun _ hk => trivial), HB.out⟩
    ·
     rw [if_neg c7] at H
     exact absurd H (by simp)
   ·
    rw [if_neg c6] at H
    exact absurd H (by simp)
  ·
   rw [if_neg c5] at H
   exact absurd H (by simp)
 ·
  rw [if_neg c4] at H
  exact absurd H (by simp)
theorem zaT (d : Nat) (w : World) (x0 y0 : Int) (x1 y1 : Int) (x2 y2 : Int) :
  (Op.equalIn (d + 2) 201 (.agg #[.int .i64 x0, .int .i64 x1, .int .i64 x2]) (.agg #[.int .i64 y0, .int .i64 y1, .int .i64 y2])).run Tryz.prog w = .ok (x0 == y0 && (x1 == y1 && (x2 == y2))) w := by
 refine zcv Tryz.underlying201 (by kernel_rfl) ?_
 refine QZ (by rfl) (by go_simp; rfl) (by go_simp; rfl) (by go_simp) ?_
 refine QZ (by rfl) (by go_simp; rfl) (by go_simp; rfl) (by go_simp) ?_
 exact zay (by rfl) (by go_simp; rfl) (by go_simp; rfl) (by go_simp)
end Go.Proofs.YtlalbohhopmpdaaGreat.PTop
namespace Go.Proofs.YtlalbohhopmpdaaGreat.PTop
open Go.Proofs.YtlalbohhopmpdaaGreat.Tiny
open Go.RowKit Go.YW.PrintWords Go.YW.PrintLast Go.YW.PrintMore
attribute [local go_sem] yU yT xE xC xe yZ xJ xK zm zu   -- for this text's walks alone
attribute [local go_sem high] zaT
def xR.l0 : Nat → List Int → List Int → Int → Int → Option (List Int)
 | 0, _, _, _, _ => none
 | k + 1, x0, x7, x8, x9 => if x9 < x8 then (if 0 ≤ x9 then (if x9 < (x7.length : Int) then ((xg.f x0 (rd x7 x9)).bind fun t356 => (xR.l0 k t356 x7 x8 (wrap64 (x9 + 1)))) else (none)) else (none)) else (some x0)
def xR.f (k : Nat) (l0 : List Int) (l1 : List Int) : Option (List Int) := xR.l0 k l0 l1 (l1.length : Int) 0
theorem xR.calls (k : Nat) (P0_ : Nat → Prop) (A0 : Option Addr) (c0 : Nat) (l0 : List Int) (A1 : Option Addr) (c1 : Nat) (l1 : List Int) (r : List Int) (w : World) (hs0 : Kd.V (Kd.int .u8) 5 w w.heap.size (fun k_ => P0_ k_) (.slice A0 l0.length c0) l0) (hr1 : Kd.C (Kd.int .u16) w A1 l1.length l1) (hc1 : l1.length ≤ c1) (h : xR.f k l0 l1 = some r) :
  Calls Tryz.prog 147 #[.slice A0 l0.length c0, .slice A1 l1.length c1] w fun e w' => ∃ v0_ : Value, e = .returned (v0_) ∧ Kd.V (Kd.int .u8) 5 w' w.heap.size (fun k_ => (P0_ k_ ∨ w.heap.size ≤ k_)) v0_ r ∧ Below w.heap.size w w' := by
 have HO0 := zf.mk (show Kd.V (Kd.int .u8) 5 w w.heap.size (fun k_ => (P0_ k_ ∨ w.heap.size ≤ k_)) (.slice A0 l0.length c0) l0 from Kd.WP hs0 (fun k_ hk => .inl hk))
 have HR1 := zf.mk hr1
 have HC1 := zf.mk hc1
 clear hr1 hc1
 have HB := zf.mk (Below.refl w.heap.size w)
 have H : (xR.l0 k l0 l1 (l1.length : Int) 0) = some r := h
 clear h
 have H' := zf.mk H
 clear H
 go_enter Tryz.func147, Tryz.ntmps147
 go_wp2
 go_loopg [0, 9] k (fun kq v0 v9 w' => ∃ (x0_1 : List Int) (x9_1 : Int), v9 = .int .i64 x9_1 ∧ zf (xR.l0 kq x0_1 l1 (l1.length : Int) x9_1 = some r) ∧ zf (kq ≤ k) ∧ zf (Kd.V (Kd.int .u8) 5 w' w.heap.size (fun k_ => (P0_ k_ ∨ w.heap.size ≤ k_)) v0 x0_1) ∧ zf (Below w.heap.size w w'))
 case atStart => exact ⟨(l0), (0), (by first | rfl | (simp; done) | (simp [*]; done)), H', ⟨Nat.le_refl _⟩, ⟨HO0.out⟩, ⟨HB.out⟩⟩
 case round =>
  clear H'
  (try clear c1)
  obtain ⟨x0_1, x9_1, rfl, HA, HK1, HO_0, HB⟩ := hrel
  cases gk with
  | zero => exact absurd HA.out (by simp [xR.l0])
  | succ k1 =>
   have H := HA.out
   clear HA
   simp only [xR.l0] at H
   by_cases c3 : x9_1 < (l1.length : Int)
   ·
    rw [if_pos c3] at H
    have c3b0 : decide (x9_1 < (l1.length : Int)) = true := dT c3
    clear c3
    by_cases c4 : 0 ≤ x9_1
    ·
     rw [if_pos c4] at H
     have c4b0 : decide (0 ≤ x9_1) = true := dT c4
     clear c4
     by_cases c5 : x9_1 < (l1.length : Int)
     ·
      rw [if_pos c5] at H
      have c5b0 : decide (x9_1 < (l1.length : Int)) = true := dT c5
      clear c5
      replace H := Option.bind_eq_some_iff.mp H
      obtain ⟨t356, A60, H⟩ := H
      have A6 := zf.mk A60
      clear A60
      have H' := zf.mk H
      clear H
      have p355 : 0 ≤ (x9_1 : Int) := of_decide_eq_true (by first | (with_reducible assumption) | assumption)
      have q355 : x9_1 < (l1.length : Int) := of_decide_eq_true (by first | (with_reducible assumption) | assumption)
      obtain ⟨ad355, e355, hx355_0⟩ := Kd.kz HR1.out x9_1 p355 q355
      cases e355
      replace hx355_0 := (HB.out.cell (World.block_lt_of_cell? w _ hx355_0)).trans hx355_0
      replace p355 := eq_true p355
      replace q355 := eq_true q355
      obtain ⟨Ao7, co7, eo7⟩ := Kd.zb7 HO_0.out
      subst eo7
      go_wp2_with (first | ((with_reducible refine yg (f := 150) rfl ?_); refine xI (some 15) rfl rfl Tryz.func150 (by kernel_rfl) rfl #[.slice Ao7 x0_1.length co7, .int .u16 (rd l1 x9_1)] rfl (by (try simp only [List.map_toArray, List.map_cons, List.map_nil]); first | done | rfl | (simp only [List.length_drop, List.length_take]; rfl)) ?_; (with_reducible refine (xg.calls _ _ x0_1 (rd l1 x9_1) t356 _ ?side1 ?side2 A6.out).mono ?_); (case side1 => repeat (first | exact (Kd.QU HO_0.out).2.2 | (with_reducible refine Kd.yF ?_ _) | (with_reducible refine Kd.yH ?_ _) | (with_reducible refine Kd.yV ?_))); (case side2 => exact (Kd.QU HO_0.out).2.1); rintro e w8 ⟨v357, rfl, ho0, hb⟩; refine ⟨_, rfl, ?_⟩; replace HO_0 := zf.mk (Kd.zaz (HO_0.out) (Kd.kC ho0) hb); have HO358 := zf.mk (Kd.zU (Kd.zcR (M := fun k_ => (w.heap.size ≤ k_)) ho0 (zq (HB.out)) (fun k_ h_ => h_)) (zq (HB.out))); replace HB := zf.mk (zH (HB.out) hb); (try clear hb); (try clear ho0)))
      go_roundg k1
      case measure => have := HK1.out; omega
      case rel => exact ⟨(t356), (wrap64 (x9_1 + 1)), (by first | rfl | (simp; done) | (simp [*]; done)), H', ⟨by have := HK1.out; omega⟩, ⟨Kd.WP (Kd.R_V (Kd.yQ HO358.out (fun _ hk => by first | exact hk.1 | exact hk))) (fun k_ hk => by first | exact ⟨(.inr (hk.1)), hk.2⟩ | exact (.inr (hk)))⟩, ⟨HB.out⟩⟩
     ·
      rw [if_neg c5] at H
      exact absurd H (by simp)
    ·
     rw [if_neg c4] at H
     exact absurd H (by simp)
   ·
    rw [if_neg c3] at H
    have c3b0 : decide (x9_1 < (l1.length : Int)) = false := dF c3
    clear c3
    obtain rfl := Option.some.inj H
    go_wp2
    go_ret
    exact ⟨_, by first | rfl | (simp [zD, zC] <;> rfl) | (simp [*, zD, zC] <;> rfl), by (with_reducible repeat (first | apply Kd.V_alloc | apply Kd.V_drewN | apply Kd.V_drew)); exact HO_0.out, HB.out⟩
def jA.f (a0_0 : Int) (a0_1 : Int) (a0_2 : Int) : Option (List Int × Int) := (xL.f a0_0 a0_1 a0_2).bind fun bt361 => (if (!(a0_0 == bt361.1) || (!(a0_1 == bt361.2.1) || (!(a0_2 == bt361.2.2)))) = true then (some (([] : List Int), 1)) else ((xg.f ([] : List Int) (IntKind.u16.wrap (a0_0))).bind fun t364 => ((xg.f t364 0).bind fun t367 => ((xg.f t367 (IntKind.u16.wrap (a0_1))).bind fun t370 => (if t370.length < 140737488355328 then (some ((t370 ++ [(a0_2) % 256]), 0)) else (none))))))
theorem jA.calls (a0_0 : Int) (a0_1 : Int) (a0_2 : Int) (r1 : List Int) (r2 : Int) (w : World) (h : jA.f a0_0 a0_1 a0_2 = some (r1, r2)) :
  Calls Tryz.prog 109 #[.agg #[.int .i64 a0_0, .int .i64 a0_1, .int .i64 a0_2]] w fun e w' => ∃ v0_ : Value, e = .returned (.tuple #[v0_, .int .i64 r2]) ∧ Kd.R (Kd.int .u8) 5 w' w.heap.size (fun _ => True) v0_ r1 ∧ Below w.heap.size w w' := by
 have hu201 := Tryz.underlying201
 have HB := zf.mk (Below.refl w.heap.size w)
 have H : ((xL.f a0_0 a0_1 a0_2).bind fun bt361 => (if (!(a0_0 == bt361.1) || (!(a0_1 == bt361.2.1) || (!(a0_2 == bt361.2.2)))) = true then (some (([] : List Int), 1)) else ((xg.f ([] : List Int) (IntKind.u16.wrap (a0_0))).bind fun t364 => ((xg.f t364 0).bind fun t367 => ((xg.f t367 (IntKind.u16.wrap (a0_1))).bind fun t370 => (if t370.length < 140737488355328 then (some ((t370 ++ [(a0_2) % 256]), 0)) else (none))))))) = some (r1, r2) := h
 clear h
 replace H := Option.bind_eq_some_iff.mp H
 obtain ⟨⟨t361, t362, t363⟩, A20, H⟩ := H
 replace H : (if (!(a0_0 == t361) || (!(a0_1 == t362) || (!(a0_2 == t363)))) = true then (some (([] : List Int), 1)) else ((xg.f ([] : List Int) (IntKind.u16.wrap (a0_0))).bind fun t364 => ((xg.f t364 0).bind fun t367 => ((xg.f t367 (IntKind.u16.wrap (a0_1))).bind fun t370 => (if t370.length < 140737488355328 then (some ((t370 ++ [(a0_2) % 256]), 0)) else (none)))))) = some (r1, r2) := H
 have A2 := zf.mk A20
 clear A20
 by_cases c3 : (!(a0_0 == t361) || (!(a0_1 == t362) || (!(a0_2 == t363)))) = true
 ·
  rw [if_pos c3] at H
  have c3b0 : (!(a0_0 == t361) || (!(a0_1 == t362) || (!(a0_2 == t363)))) = true := c3
  clear c3
  simp only [Option.some.injEq, Prod.mk.injEq] at H
  obtain ⟨rfl, rfl⟩ := H
  go_enter Tryz.func109, Tryz.ntmps109
  try go_wp2_with (first | ((with_reducible refine zS (N := 1) rfl ?_); refine yt ?hg (N := 1) ?hd (cs := #[.int .i64 a0_0, .int .i64 a0_1, .int .i64 a0_2]) (t := 201) ?hr ?_; (case hd => rfl); (case hg => rfl); (case hr => first | (go_simp; done) | (go_simp; rfl)); intro gb360 hg w4 hbox hb; have BK360 := zf.mk (hbox); have GW360 := zf.mk ((by rw [hg]; exact (zq (HB.out)) : w.heap.size ≤ gb360)); have GE360 := zf.mk ((by rw [hg]; exact (zq (HB.out)) : w.heap.size ≤ gb360)); replace HB := zf.mk (zH (HB.out) hb); clear hb hbox hg))
  have n0_ := zf.mk (zo BK360.out)
  have n1_ := zf.mk (zM HB.out)
  clear BK360
  clear HB
  have BK360 := n0_
  have HB := n1_
  clear n0_ n1_
  refine sq_ (ds := []) #[false,false,false,false] (fun w' => w'.cell? ⟨gb360, 0, none⟩ = some (.int .i64 a0_0) ∧ w'.cell? ⟨gb360, 1, none⟩ = some (.int .i64 a0_1) ∧ w'.cell? ⟨gb360, 2, none⟩ = some (.int .i64 a0_2)) ⟨(za BK360.out 0).trans rfl, (za BK360.out 1).trans rfl, (za BK360.out 2).trans rfl⟩ (fun hHeld => ?_)
  generalize w4.drew = w5 at BK360 HB hHeld ⊢
  refine tq_ 0 (some 5) hHeld ?_
  refine tq_ 1 (some 6) hHeld ?_
  refine oq_ 2 (some 7) (fun K hK => ?_)
  refine yo Tryz.func149 (by kernel_rfl) rfl #[.agg #[.int .i64 a0_0, .int .i64 a0_1, .int .i64 a0_2]] (by rfl) rfl rfl (by (try simp only [List.map_toArray, List.map_cons, List.map_nil]); first | done | rfl | (simp only [List.length_drop, List.length_take]; rfl)) ?_
  with_reducible refine (xL.calls a0_0 a0_1 a0_2 t361 t362 t363 _ A2.out).mono ?_
  rintro e w6 ⟨rfl, hb⟩
  refine ⟨_, rfl, ?_⟩
  have n0_ := zf.mk (zb BK360.out hb)
  have n1_ := zf.mk (zH (HB.out) hb)
  clear BK360
  clear HB
  have BK360 := n0_
  have HB := n1_
  clear n0_ n1_
  (try clear hb)
  (try clear hb2)
  (try clear hk)
  (try clear hi)
  refine hK.out _ _ ⟨(za BK360.out 0).trans rfl, (za BK360.out 1).trans rfl, (za BK360.out 2).trans rfl⟩ (fun hHeld => ?_)
  clear hK K
  refine nq_ ?_
  refine pq_ 3 (some 8) ?_
  refine xP (by kernel_rfl) ?_
  try go_wp2
  go_ret2
  exact ⟨_, by first | rfl | (simp [zD, zC] <;> rfl) | (simp [*, zD, zC] <;> rfl), by first | exact Kd.xM _ _ _ _ _ | exact Kd.N_nil _ _ _ _ _ | exact Kd.V_nil _ _ _ _ _ | exact Kd.Q_nil _ _ _ _ _ | exact Kd.S_nil _ _ _ _ _, HB.out⟩
 ·
  rw [if_neg c3] at H
  have c3b0 : (!(a0_0 == t361) || (!(a0_1 == t362) || (!(a0_2 == t363)))) = false := by simpa using c3
  clear c3
  replace H := Option.bind_eq_some_iff.mp H
  obtain ⟨t364, A70, H⟩ := H
  have A7 := zf.mk A70
  clear A70
  replace H := Option.bind_eq_some_iff.mp H
  obtain ⟨t367, A80, H⟩ := H
  have A8 := zf.mk A80
  clear A80
  replace H := Option.bind_eq_some_iff.mp H
  obtain ⟨t370, A90, H⟩ := H
  have A9 := zf.mk A90
  clear A90
  by_cases c10 : t370.length < 140737488355328
  ·
   rw [if_pos c10] at H
   have LMc10 := zf.mk c10
   clear c10
   obtain ⟨y373, hy373⟩ : ∃ y_ : List Int, y_ = (t370 ++ [(a0_2) % 256]) := ⟨_, rfl⟩
   replace H : (some (y373, 0)) = some (r1, r2) := by first | (rw [hy373]; with_reducible exact H) | (have H2_ := (Option.bind_some _ _).symm.trans H; rw [hy373]; with_reducible exact H2_) | (have H2_ := (Option.bind_some _ _).symm.trans H; with_reducible exact H2_) | with_reducible exact H | (rw [hy373]; exact H) | exact H
   have Ny373 := zf.mk hy373
   clear hy373
   simp only [Option.some.injEq, Prod.mk.injEq] at H
   obtain ⟨rfl, rfl⟩ := H
   go_enter Tryz.func109, Tryz.ntmps109
   try go_wp2_with (first | ((with_reducible refine zS (N := 1) rfl ?_); refine yt ?hg (N := 1) ?hd (cs := #[.int .i64 a0_0, .int .i64 a0_1, .int .i64 a0_2]) (t := 201) ?hr ?_; (case hd => rfl); (case hg => rfl); (case hr => first | (go_simp; done) | (go_simp; rfl)); intro gb360 hg w11 hbox hb; have BK360 := zf.mk (hbox); have GW360 := zf.mk ((by rw [hg]; exact (zq (HB.out)) : w.heap.size ≤ gb360)); have GE360 := zf.mk ((by rw [hg]; exact (zq (HB.out)) : w.heap.size ≤ gb360)); replace HB := zf.mk (zH (HB.out) hb); clear hb hbox hg))
   have n0_ := zf.mk (zo BK360.out)
   have n1_ := zf.mk (zM HB.out)
   clear BK360
   clear HB
   have BK360 := n0_
   have HB := n1_
   clear n0_ n1_
   refine sq_ (ds := []) #[false,false,false,false] (fun w' => w'.cell? ⟨gb360, 0, none⟩ = some (.int .i64 a0_0) ∧ w'.cell? ⟨gb360, 1, none⟩ = some (.int .i64 a0_1) ∧ w'.cell? ⟨gb360, 2, none⟩ = some (.int .i64 a0_2)) ⟨(za BK360.out 0).trans rfl, (za BK360.out 1).trans rfl, (za BK360.out 2).trans rfl⟩ (fun hHeld => ?_)
   generalize w11.drew = w12 at BK360 HB hHeld ⊢
   refine tq_ 0 (some 5) hHeld ?_
   refine tq_ 1 (some 6) hHeld ?_
   refine oq_ 2 (some 7) (fun K hK => ?_)
   refine yo Tryz.func149 (by kernel_rfl) rfl #[.agg #[.int .i64 a0_0, .int .i64 a0_1, .int .i64 a0_2]] (by rfl) rfl rfl (by (try simp only [List.map_toArray, List.map_cons, List.map_nil]); first | done | rfl | (simp only [List.length_drop, List.length_take]; rfl)) ?_
   with_reducible refine (xL.calls a0_0 a0_1 a0_2 t361 t362 t363 _ A2.out).mono ?_
   rintro e w13 ⟨rfl, hb⟩
   refine ⟨_, rfl, ?_⟩
   have n0_ := zf.mk (zb BK360.out hb)
   have n1_ := zf.mk (zH (HB.out) hb)
   clear BK360
   clear HB
   have BK360 := n0_
   have HB := n1_
   clear n0_ n1_
   (try clear hb)
   (try clear hb2)
   (try clear hk)
   (try clear hi)
   refine hK.out _ _ ⟨(za BK360.out 0).trans rfl, (za BK360.out 1).trans rfl, (za BK360.out 2).trans rfl⟩ (fun hHeld => ?_)
   clear hK K
   refine nq_ ?_
   refine pq_ 3 (some 8) ?_
   refine xP (by kernel_rfl) ?_
   obtain ⟨hcz14_0, hcz14_1, hcz14_2⟩ := zV BK360.out
   obtain ⟨hfz14_0, hfz14_1, hfz14_2⟩ := xq BK360.out
   try go_wp2_with (first | ((with_reducible refine yg (f := 150) rfl ?_); refine xI (some 12) rfl rfl Tryz.func150 (by kernel_rfl) rfl #[.slice none 0 0, .int .u16 (IntKind.u16.wrap (a0_0))] rfl (by (try simp only [List.map_toArray, List.map_cons, List.map_nil]); first | done | rfl | (simp only [List.length_drop, List.length_take]; rfl)) ?_; (refine (xg.calls _ _ ([] : List Int) (IntKind.u16.wrap (a0_0)) t364 _ ?side1 ?side2 A7.out).mono ?_); (case side1 => exact Kd.jU _ _); (case side2 => exact Nat.le_refl _); rintro e w15 ⟨v365, rfl, ho0, hb⟩; refine ⟨_, rfl, ?_⟩; have HO366 := zf.mk (Kd.zU ho0 (zq (HB.out))); replace BK360 := zf.mk (zb BK360.out hb); replace HB := zf.mk (zH (HB.out) hb); (try clear hb); (try clear ho0); obtain ⟨Ao16, co16, eo16⟩ := Kd.zX HO366.out; subst eo16) | ((with_reducible refine yg (f := 150) rfl ?_); refine xI (some 14) rfl rfl Tryz.func150 (by kernel_rfl) rfl #[.slice Ao16 t364.length co16, .int .u16 0] rfl (by (try simp only [List.map_toArray, List.map_cons, List.map_nil]); first | done | rfl | (simp only [List.length_drop, List.length_take]; rfl)) ?_; (with_reducible refine (xg.calls _ _ t364 0 t367 _ ?side1 ?side2 A8.out).mono ?_); (case side1 => repeat (first | exact (Kd.zw HO366.out).2.2 | (with_reducible refine Kd.yF ?_ _) | (with_reducible refine Kd.yH ?_ _) | (with_reducible refine Kd.yV ?_))); (case side2 => exact (Kd.zw HO366.out).2.1); rintro e w17 ⟨v368, rfl, ho0, hb⟩; refine ⟨_, rfl, ?_⟩; have HO369 := zf.mk (Kd.zU (Kd.ZV ho0 (Kd.YN (HO366.out))) (zq (HB.out))); replace HO366 := zf.mk (Kd.kF (HO366.out) (Kd.kC ho0) hb); replace BK360 := zf.mk (zb BK360.out hb); replace HB := zf.mk (zH (HB.out) hb); (try clear hb); (try clear ho0); obtain ⟨hcz18_0, hcz18_1, hcz18_2⟩ := zV BK360.out; obtain ⟨hfz18_0, hfz18_1, hfz18_2⟩ := xq BK360.out; obtain ⟨Ao19, co19, eo19⟩ := Kd.zX HO369.out; subst eo19) | ((with_reducible refine yg (f := 150) rfl ?_); refine xI (some 19) rfl rfl Tryz.func150 (by kernel_rfl) rfl #[.slice Ao19 t367.length co19, .int .u16 (IntKind.u16.wrap (a0_1))] rfl (by (try simp only [List.map_toArray, List.map_cons, List.map_nil]); first | done | rfl | (simp only [List.length_drop, List.length_take]; rfl)) ?_; (with_reducible refine (xg.calls _ _ t367 (IntKind.u16.wrap (a0_1)) t370 _ ?side1 ?side2 A9.out).mono ?_); (case side1 => repeat (first | exact (Kd.zw HO369.out).2.2 | (with_reducible refine Kd.yF ?_ _) | (with_reducible refine Kd.yH ?_ _) | (with_reducible refine Kd.yV ?_))); (case side2 => exact (Kd.zw HO369.out).2.1); rintro e w20 ⟨v371, rfl, ho0, hb⟩; refine ⟨_, rfl, ?_⟩; have HO372 := zf.mk (Kd.zU (Kd.ZV (Kd.ZV ho0 (Kd.YN (HO366.out))) (Kd.YN (HO369.out))) (zq (HB.out))); replace HO366 := zf.mk (Kd.kF (HO366.out) (Kd.kC ho0) hb); replace HO369 := zf.mk (Kd.kF (HO369.out) (Kd.kC ho0) hb); replace BK360 := zf.mk (zb BK360.out hb); replace HB := zf.mk (zH (HB.out) hb); (try clear hb); (try clear ho0); obtain ⟨hcz21_0, hcz21_1, hcz21_2⟩ := zV BK360.out; obtain ⟨hfz21_0, hfz21_1, hfz21_2⟩ := xq BK360.out) | ((with_reducible refine zZ (b := .append) (xs := #[.tmp 20, .tmp 24]) rfl ?_); at_builtin; refine Kd.kE (Kd.int .u8) (w0 := w) w.heap.size rfl (.tmp 20) (.tmp 24) 59 5 (.int .u8 0) 1 rfl Tryz.underlying59 info5 rfl (by decide) (by omega) v371 t370 ((a0_2) % 256) [.int .u8 ((a0_2) % 256)] (fun k_ => some k_ ≠ (.slice Ao16 t364.length co16 : Value).ownBlock ∧ some k_ ≠ (.slice Ao19 t367.length co19 : Value).ownBlock) (fun _ => False) rfl rfl ?aP (fun _ hk => hk.elim) ?aF ?aO ?aB ?aS ?aL ?_; (case aP => exact rfl); (case aB => exact (HB.out)); (case aF => exact (fun k_ hk => ⟨Kd.fresh' (Kd.YN (HO366.out)) k_ hk, Kd.fresh' (Kd.YN (HO369.out)) k_ hk⟩)); (case aO => exact (Kd.yQ HO372.out (fun _ hk => ⟨hk.1.2, hk.2⟩))); (case aS => exact (zq (HB.out))); (case aL => have := LMc10.out; omega); intro v374 w22 ho hb hg hat; rw [← Ny373.out] at ho; replace BK360 := zf.mk (yG (g := gb360) (o := .cells #[.int .i64 a0_0, .int .i64 a0_1, .int .i64 a0_2] 201 (0, 0)) (BK360.out) hg (Kd.QH HO372.out BK360.out (by decide))); replace HO366 := zf.mk (Kd.vF (ok := (fun k_ => some k_ ≠ (.slice Ao19 t367.length co19 : Value).ownBlock)) (Kd.yQ HO366.out (fun _ hk => ⟨hk.1.2, hk.2⟩)) hg hat); replace HO369 := zf.mk (Kd.vF (ok := (fun k_ => some k_ ≠ (.slice Ao16 t364.length co16 : Value).ownBlock)) (Kd.yQ HO369.out (fun _ hk => ⟨hk.1.2, hk.2⟩)) hg hat); replace HB := zf.mk (hb); have HO375 := zf.mk (ho); clear HO372; clear ho hb hg hat))
   go_ret2
   exact ⟨_, by first | rfl | (simp [zD, zC] <;> rfl) | (simp [*, zD, zC] <;> rfl), Kd.yQ HO375.out (fun _ hk => trivial), HB.out⟩
  ·
   rw [if_neg c10] at H
   exact absurd H (by simp)
end Go.Proofs.YtlalbohhopmpdaaGreat.PTop
namespace Go.Proofs.YtlalbohhopmpdaaGreat.Top
open Go.RowKit Go.Proofs.YtlalbohhopmpdaaGreat.PTop Go.YW.PrintWords Go.YW.PrintLast Go.YW.PrintMore Go.Proofs.YtlalbohhopmpdaaGreat.Num
attribute [local go_sem] zm zu
def xU : List Int → List Int
  | [] => []
  | x :: l => (x / 256) % 256 :: x % 256 :: xU l
theorem kw : ∀ l : List Int, (xU l).length = 2 * l.length
  | [] => rfl
  | x :: l => by simp only [xU, List.length_cons, kw l]; omega
theorem zdO (l : List Int) (x : Int) (h : l.length ≤ 100000) : xg.f l x = some (l ++ [(x / 256) % 256, x % 256]) := by
  unfold xg.f
  have hw : wrap64 ((l.length : Int) + 2) = (l.length : Int) + 2 := zA (by omega) (by omega)
  rw [hw, if_pos (by omega), if_pos (by omega), Option.bind_some, if_pos (by simp; omega), Option.bind_some, Option.bind_some, if_pos (by simp; omega)]
  rfl
theorem zaO (l : List Int) (hl : l.length ≤ 1000) : ∀ (k i : Nat) (b : List Int), l.length - i < k → i ≤ l.length → b.length ≤ 100 + 2 * i → xR.l0 k b l (l.length : Int) (i : Int) = some (b ++ xU (l.drop i))
  | 0, _, _, h, _, _ => absurd h (Nat.not_lt_zero _)
  | k + 1, i, b, h, hi, hb => by
    rw [xR.l0]
    by_cases h1 : i < l.length
    · rw [if_pos (by omega), if_pos (by omega), if_pos (by omega), zdO _ _ (by omega), Option.bind_some, show wrap64 ((i : Int) + 1) = ((i + 1 : Nat) : Int) from by rw [zA (by omega) (by omega)]; omega,
        zaO l hl k (i + 1) _ (by omega) (by omega) (by simp; omega)]
      rw [List.drop_eq_getElem_cons h1, xU]
      have hr : rd l (i : Int) = l[i] := by
        unfold rd
        simp [List.getD_eq_getElem?_getD, List.getElem?_eq_getElem h1]
      rw [hr]
      simp
    · rw [if_neg (by omega), List.drop_eq_nil_of_le (by omega)]
      simp [xU]
theorem XC (b l : List Int) (hl : l.length ≤ 1000) (hb : b.length ≤ 100) : xR.f (l.length + 1) b l = some (b ++ xU l) := by
  rw [xR.f]
  have h := zaO l hl (l.length + 1) 0 b (by omega) (by omega) (by omega)
  rw [List.drop_zero] at h
  exact h
theorem zc7 {k : IntKind} {e base : Nat} (W : World) (l : List Int) (hb : base ≤ W.heap.size) (hl : l.length ≤ 100000) : Kd.R (Kd.int k) e (W.alloc (.cells (l.map (Value.int k)).toArray e)) base (fun _ => True) (.slice (some ⟨W.heap.size, 0, none⟩) l.length l.length) l := by
  refine Kd.Jn (enc := Value.int k) (h1 := fun _ => rfl) ?_ (fun _ _ => trivial)
  have h2 := World.ownsRow_lit (base := base) (e := e) (size := 1) W (l.map (Value.int k)).toArray l.length hb (by simp [maxLen]; omega) (by simp)
  simpa [encs] using h2
theorem Qw {k : IntKind} {e : Nat} (W : World) (l : List Int) (g : Nat) (hg : g = W.heap.size) (hl : l.length ≤ 100000) : Kd.C (Kd.int k) (W.alloc (.cells (l.map (Value.int k)).toArray e)) (some ⟨g, 0, none⟩) l.length l := by
  have := ZF l (qP W (.cells (l.map (Value.int k)).toArray e) g hg) 0 l.length (by omega) hl
  rwa [List.drop_zero, List.take_length] at this
theorem zbS {k : IntKind} {w : World} {g t e base c : Nat} {fr : Nat × Nat} (l : List Int) (h : w.heap[g]? = some (.cells (l.map (Value.int k)).toArray t fr)) (hl : l.length ≤ 100000) (hc : l.length ≤ c) :
    Kd.V (Kd.int k) e w base (fun x => x = g) (.slice (some ⟨g, 0, none⟩) l.length c) l :=
  Kd.zdC hc (fun W' hW => by
    have := ZF l ((hW g rfl (zF h)).trans h) 0 l.length (by omega) hl
    rwa [List.drop_zero, List.take_length] at this)
theorem QB (w : World) (A2 : Option Addr) (c2 : Nat) (A3 : Option Addr) (c3 : Nat) (A13 : Option Addr) (c13 : Nat) :
    Calls Tryz.prog 108 #[.agg (zI 6 4 (.slice A2 0 c2) (.slice A3 0 c3) 0 0 (.slice A13 0 c13))] w fun e w' => ∃ A c, e = .returned (.tuple #[.slice A 2 c, .int .i64 0]) ∧ 2 ≤ c ∧ Kd.F (Kd.int .u8) w' (fun k => w.heap.size ≤ k) A 2 [134, 4] ∧ Below w.heap.size w w' := by
  have hu41 := Tryz.underlying41
  have X2 := hQ (show (w.alloc (.cells (zI 6 4 (.slice A2 0 c2) (.slice A3 0 c3) 0 0 (.slice A13 0 c13)) 41)).heap[w.heap.size]? = some (.cells (zI 6 4 (.slice A2 0 c2) (.slice A3 0 c3) 0 0 (.slice A13 0 c13)) 41 (0, 0)) from zi w _)
  have hR := Qc
  simp only [zI] at X2 hR ⊢
  go_enter Tryz.func108, Tryz.ntmps108
  go_wp2_with (fail)
  refine (hR _ A2 c2 A3 c3 A13 c13).mono ?_
  rintro e w3 ⟨rfl, hb⟩
  have X3 := hQ (zb X2.out hb)
  obtain ⟨x0, x1, x2, x3, x4, x5, x6, x7, x8, x9, x10, x11, x12, x13⟩ := yn X3.out
  go_wp2_with (fail)
  have e1 : bits BinOp.or IntKind.u8 6 128 = 134 := by decide
  have B3 : Below w.heap.size w w3 := ((Below.refl _ _).alloc (Nat.le_refl _) _).trans (hb.mono (by simp))
  refine bodyPost_ret (v := .tuple #[.slice (some ⟨w3.heap.size, 0, none⟩) 2 2, .int .i64 0]) (by simp [results, Tryz.results108, go_sem]) rfl ⟨_, _, rfl, by omega, ?_, B3.alloc B3.size _⟩
  refine Kd.qx (ok := fun k => k = w3.heap.size) (fun W' hW => ?_) (fun k hk => by have := B3.size; omega)
  exact ZF (k := .u8) [134, 4] ((hW w3.heap.size rfl (by simp)).trans (qP w3 (.cells #[.int .u8 (bits BinOp.or IntKind.u8 6 128), .int .u8 4] 5) _ rfl)) 0 2 (by decide) (by decide)
theorem Qf (w : World) (a v : Int) (ha : 0 ≤ a ∧ a < 256) (hv : 0 ≤ v ∧ v < 65536) (A2 : Option Addr) (c2 : Nat) (A3 : Option Addr) (c3 : Nat) (A13 : Option Addr) (c13 : Nat) :
    Calls Tryz.prog 108 #[.agg (zI 6 0 (.slice A2 0 c2) (.slice A3 0 c3) a v (.slice A13 0 c13))] w fun e w' => ∃ A c, e = .returned (.tuple #[.slice A 5 c, .int .i64 0]) ∧ 5 ≤ c ∧ Kd.F (Kd.int .u8) w' (fun k => w.heap.size ≤ k) A 5 [6, 0, a, v / 256, v % 256] ∧ Below w.heap.size w w' := by
  have hu41 := Tryz.underlying41
  have X2 := hQ (show (w.alloc (.cells (zI 6 0 (.slice A2 0 c2) (.slice A3 0 c3) a v (.slice A13 0 c13)) 41)).heap[w.heap.size]? = some (.cells (zI 6 0 (.slice A2 0 c2) (.slice A3 0 c3) a v (.slice A13 0 c13)) 41 (0, 0)) from zi w _)
  have hR := QC
  have HA := hQ ha
  have HV := hQ hv
  have ew1 : IntKind.u16.wrap a = a := by show a % 65536 = a; omega
  clear ha hv
  simp only [zI] at X2 hR ⊢
  go_enter Tryz.func108, Tryz.ntmps108
  go_wp2_with (fail)
  refine (hR _ a v HA.out HV.out A2 c2 A3 c3 A13 c13).mono ?_
  rintro e w3 ⟨rfl, hb⟩
  have X3 := hQ (zb X2.out hb)
  obtain ⟨x0, x1, x2, x3, x4, x5, x6, x7, x8, x9, x10, x11, x12, x13⟩ := yn X3.out
  obtain ⟨y0, y1, y2, y3, y4, y5, y6, y7, y8, y9, y10, y11, y12, y13⟩ := yn (zg X3.out (.cells #[.int .u8 6] 5))
  have B3 : Below w.heap.size w w3 := ((Below.refl _ _).alloc (Nat.le_refl _) _).trans (hb.mono (by simp))
  have hV := zbS (k := .u8) (e := 5) (base := ((w3.alloc (.cells #[.int .u8 6] 5)).alloc (.cells #[.int .u16 a, .int .u16 v] 33)).heap.size) (c := 1) [6] (zg (qP w3 (.cells #[.int .u8 6] 5) _ rfl) (.cells #[.int .u16 a, .int .u16 v] 33)) (by decide) (by decide)
  have hC := ZF (k := .u16) [a, v] (qP (w3.alloc (.cells #[.int .u8 6] 5)) (.cells #[.int .u16 a, .int .u16 v] 33) (w3.heap.size + 1) (by simp)) 0 2 (by simp) (by simp)
  go_wp2_with (fail)
  refine (xR.calls 3 _ _ 1 [6] _ 2 [a, v] _ _ hV hC (Nat.le_refl _) (XC [6] [a, v] (by simp) (by simp))).mono ?_
  rintro e w4 ⟨v0, rfl, hV4, hb4⟩
  obtain ⟨A4, c4, hv4, hc4, hF4⟩ := hV4
  have hv4' : v0 = .slice A4 5 c4 := hv4
  have HC := hQ (Kd.qx hF4 (ok' := fun k => w.heap.size ≤ k) (fun k hk => by have := B3.size; rcases hk with h2 | h2 <;> (try simp at h2) <;> omega))
  have HL := hQ hc4
  clear hv4 hF4 hc4
  subst hv4'
  go_wp2_with (fail)
  refine bodyPost_ret (v := .tuple #[.slice A4 5 c4, .int .i64 0]) (by simp [results, Tryz.results108, go_sem]) rfl ⟨_, _, rfl, HL.out, ?_, ((B3.alloc B3.size _).alloc (by simp; have := B3.size; omega) _).trans (hb4.mono (by simp; have := B3.size; omega))⟩
  have e0 : [6] ++ xU [a, v] = [6, 0, a, v / 256, v % 256] := by
    simp only [xU, List.cons_append, List.nil_append]
    have := HA.out
    have := HV.out
    rw [show a / 256 % 256 = 0 by omega, show a % 256 = a by omega, show v / 256 % 256 = v / 256 by omega]
  have := HC.out
  rw [e0] at this
  exact this
open Go.Proofs.YtlalbohhopmpdaaGreat.Tiny
theorem QL (w : World) (l : List Int) (n : Nat) (hn : l.length = n) (hl : 1 ≤ n ∧ n ≤ 16) (A2 : Option Addr) (c2 : Nat) (A3 : Option Addr) (c3 : Nat) (A13 : Option Addr) (c13 : Nat) (hC : Kd.C (Kd.int .u16) w A3 n l) (hc : n ≤ c3) :
    Calls Tryz.prog 108 #[.agg (zI 3 0 (.slice A2 0 c2) (.slice A3 n c3) 0 0 (.slice A13 0 c13))] w fun e w' => ∃ A c, e = .returned (.tuple #[.slice A (2 + 2 * n) c, .int .i64 0]) ∧ 2 + 2 * n ≤ c ∧ Kd.F (Kd.int .u8) w' (fun k => w.heap.size ≤ k) A (2 + 2 * n) (3 :: 2 * (n : Int) :: xU l) ∧ Below w.heap.size w w' := by
  have hu41 := Tryz.underlying41
  have X2 := hQ (show (w.alloc (.cells (zI 3 0 (.slice A2 0 c2) (.slice A3 n c3) 0 0 (.slice A13 0 c13)) 41)).heap[w.heap.size]? = some (.cells (zI 3 0 (.slice A2 0 c2) (.slice A3 n c3) 0 0 (.slice A13 0 c13)) 41 (0, 0)) from zi w _)
  have hR := fun (w : World) => QG w l (by omega) A2 c2 A3 c3 A13 c13
  rw [hn] at hR
  have HN := hQ hn
  have HL := hQ hl
  have HC := hQ hC
  have HCC := hQ hc
  have hw1 : wrap64 (2 * (n : Int)) = 2 * (n : Int) := zA (by omega) (by omega)
  have hw2 : IntKind.u8.wrap (2 * (n : Int)) = 2 * (n : Int) := by show (2 * (n : Int)) % 256 = _; omega
  clear hn hl hC hc
  simp only [zI] at X2 hR ⊢
  go_enter Tryz.func108, Tryz.ntmps108
  go_wp2_with (fail)
  refine (hR _).mono ?_
  rintro e w3 ⟨rfl, hb⟩
  have X3 := hQ (zb X2.out hb)
  have B3 : Below w.heap.size w w3 := ((Below.refl _ _).alloc (Nat.le_refl _) _).trans (hb.mono (by simp))
  obtain ⟨x0, x1, x2, x3, x4, x5, x6, x7, x8, x9, x10, x11, x12, x13⟩ := yn X3.out
  have X4 := hQ (zg X3.out (.cells #[.int .u8 3] 5))
  obtain ⟨y0, y1, y2, y3, y4, y5, y6, y7, y8, y9, y10, y11, y12, y13⟩ := yn X4.out
  have B4 := hQ (B3.alloc B3.size (.cells #[.int .u8 3] 5))
  have R4 := hQ (zc7 (k := .u8) (e := 5) w3 [3] B3.size (by decide))
  go_wp2_with (fail)
  clear x0 x1 x2 x3 x4 x5 x6 x7 x8 x9 x10 x11 x12 x13 y0 y1 y2 y3 y4 y5 y6 y7 y8 y9 y10 y11 y12 y13 hb
  refine sq_ (ds := []) #[false, false, false, false, false, false, false, false, false, false, false, false] (fun w' => w'.cell? ⟨w.heap.size, 0, none⟩ = some (.int .i64 3) ∧ w'.cell? ⟨w.heap.size, 1, none⟩ = some (.int .i64 0) ∧ w'.cell? ⟨w.heap.size, 2, none⟩ = some (.slice A2 0 c2) ∧ w'.cell? ⟨w.heap.size, 3, none⟩ = some (.slice A3 n c3) ∧ w'.cell? ⟨w.heap.size, 4, none⟩ = some (.int .i64 0) ∧ w'.cell? ⟨w.heap.size, 5, none⟩ = some (.int .i64 0) ∧ w'.cell? ⟨w.heap.size, 6, none⟩ = some (.int .u16 0) ∧ w'.cell? ⟨w.heap.size, 7, none⟩ = some (.int .u16 0) ∧ w'.cell? ⟨w.heap.size, 8, none⟩ = some (.int .u16 0) ∧ w'.cell? ⟨w.heap.size, 9, none⟩ = some (.int .i64 0) ∧ w'.cell? ⟨w.heap.size, 10, none⟩ = some (.int .i64 0) ∧ w'.cell? ⟨w.heap.size, 11, none⟩ = some (.bool false) ∧ w'.cell? ⟨w.heap.size, 12, none⟩ = some (.int .i64 0) ∧ w'.cell? ⟨w.heap.size, 13, none⟩ = some (.slice A13 0 c13)) ⟨za X4.out 0, za X4.out 1, za X4.out 2, za X4.out 3, za X4.out 4, za X4.out 5, za X4.out 6, za X4.out 7, za X4.out 8, za X4.out 9, za X4.out 10, za X4.out 11, za X4.out 12, za X4.out 13⟩ (fun hHeld => ?_)
  refine pq_ 0 (some 57) ?_
  refine pq_ 1 (some 58) ?_
  refine pq_ 8 (some 65) ?_
  refine tq_ 2 (some 59) hHeld ?_
  refine pq_ 3 (some 60) ?_
  refine pq_ 4 (some 61) ?_
  refine pq_ 5 (some 62) ?_
  refine tq_ 9 (some 66) hHeld ?_
  refine oq_ 6 (some 63) (fun K hK => ?_)
  refine jW (w1 := ?_) (v := ?_) (by rfl) rfl ?_ ?_
  rotate_left 2
  · go_simp
    constructor
    · rfl
    · rfl
  refine hK.out _ _ ⟨za (zg X4.out _) 0, za (zg X4.out _) 1, za (zg X4.out _) 2, za (zg X4.out _) 3, za (zg X4.out _) 4, za (zg X4.out _) 5, za (zg X4.out _) 6, za (zg X4.out _) 7, za (zg X4.out _) 8, za (zg X4.out _) 9, za (zg X4.out _) 10, za (zg X4.out _) 11, za (zg X4.out _) 12, za (zg X4.out _) 13⟩ (fun hHeld => ?_)
  clear hK K
  refine nq_ ?_
  refine oq_ 7 (some 64) (fun K hK => ?_)
  refine Kd.qm (Kd.int .u8) (w0 := w) w.heap.size (by rfl) (.tmp 57) (.tmp 63) 59 5 (.int .u8 0) 1 rfl Tryz.underlying59 info5 rfl (by decide) (by omega) (.slice (some ⟨w3.heap.size, 0, none⟩) 1 1) [3] [2 * (n : Int)] _ _ _ (fun _ => True) (fun _ => False) rfl rfl (Kd.jQ (Kd.xO R4.out _)) (Kd.yV (Qw (k := .u8) (w3.alloc (.cells #[.int .u8 3] 5)) [2 * (n : Int)] _ (by simp) (by simp))) (fun _ _ h => h) (fun _ h => h.elim) (fun _ _ => trivial) (zk (B4.out.alloc B4.out.size _)) (by have := (zk (B4.out.alloc B4.out.size (.cells #[.int .u8 (2 * (n : Int))] 5))).size; exact this) (by simp) ?_
  intro v5 w5 ho hb hg hat
  have X5 := hQ (yG (g := w.heap.size) (zo (zg X4.out _)) hg (by have := B3.size; have hlt := zF X3.out; simp [Value.ownBlock]; omega))
  have R5 := hQ ho
  have B5 := hQ hb
  obtain ⟨A5, c5, hv5⟩ := Kd.zX ho
  have hv5' : v5 = .slice A5 2 c5 := hv5
  clear ho hb hg hat hv5
  subst hv5'
  have HP := xR.calls (l.length + 1) _ A5 c5 [3, 2 * (n : Int)] A3 c3 l _ w5 (Kd.R_V (Kd.yQ (Kd.xW R5.out) (ok' := fun k => w.heap.size ≤ k) (fun k hk => hk.2.1))) (by rw [HN.out]; exact Kd.zz HC.out B5.out) (by rw [HN.out]; exact HCC.out) (XC [3, 2 * (n : Int)] l (by have := HN.out; have := HL.out; omega) (by simp))
  rw [HN.out] at HP
  refine hK.out _ _ ⟨za X5.out 0, za X5.out 1, za X5.out 2, za X5.out 3, za X5.out 4, za X5.out 5, za X5.out 6, za X5.out 7, za X5.out 8, za X5.out 9, za X5.out 10, za X5.out 11, za X5.out 12, za X5.out 13⟩ (fun hHeld => ?_)
  clear hK K
  refine nq_ ?_
  refine oq_ 10 (some 67) (fun K hK => ?_)
  refine yo Tryz.func147 (by kernel_rfl) rfl #[.slice A5 2 c5, .slice A3 n c3] (by rfl) rfl rfl (by (try simp only [List.map_toArray, List.map_cons, List.map_nil]); first | done | rfl) ?_
  refine (HP).mono ?_
  rintro e w6 ⟨v0, rfl, hV, hb⟩
  obtain ⟨A6, c6, hv6, hc6, hF6⟩ := hV
  have HV6 := hQ hv6
  have HC6 := hQ hc6
  have HF6 := hQ (Kd.qx hF6 (ok' := fun k => w.heap.size ≤ k) (fun k hk => hk.elim id (fun h => Nat.le_trans B5.out.size h)))
  clear hv6 hc6 hF6 HP
  refine ⟨_, rfl, ?_⟩
  have B6 := hQ (ze B5.out B5.out.size hb)
  have X6 := hQ (zb X5.out hb)
  clear hb
  refine hK.out _ _ ⟨za X6.out 0, za X6.out 1, za X6.out 2, za X6.out 3, za X6.out 4, za X6.out 5, za X6.out 6, za X6.out 7, za X6.out 8, za X6.out 9, za X6.out 10, za X6.out 11, za X6.out 12, za X6.out 13⟩ (fun hHeld => ?_)
  clear hK K
  refine nq_ ?_
  refine pq_ 11 (some 4) ?_
  refine xP (by kernel_rfl) ?_
  --ENDB
  have hv6' : v0 = .slice A6 (2 + 2 * n) c6 := by
    rw [HV6.out]
    have := HN.out
    simp [kw]
    omega
  clear HV6
  subst hv6'
  go_wp2
  have hlen : ([3, 2 * (n : Int)] ++ xU l).length = 2 + 2 * n := by
    have := HN.out
    simp [kw]
    omega
  have hC := HC6.out
  have hF := HF6.out
  rw [hlen] at hC hF
  exact bodyPost_ret (v := .tuple #[.slice A6 (2 + 2 * n) c6, .int .i64 0]) (by simp [results, Tryz.results108, go_sem]) rfl ⟨_, _, rfl, hC, hF, B6.out⟩
end Go.Proofs.YtlalbohhopmpdaaGreat.Top
