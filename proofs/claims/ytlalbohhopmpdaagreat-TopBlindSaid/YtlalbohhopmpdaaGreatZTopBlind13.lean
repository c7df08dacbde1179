/- Words and walks for TopBlind (made of the session's own texts; each part by itself). -/
import Derived.Deep.DeepCutAuto
import Derived.Deep.DeepMust
import Derived.Deep.RegionLaw
import Derived.RegionTactic
import Derived.ChangeAlike
import Derived.Laws.CopyOwn
import Derived.Outline
import Derived.Lib.Hide
import Derived.WalkSpells
import Derived.Test.YtlalbohhopmpdaaGreatZTopBlind12
set_option maxRecDepth 100000
set_option maxHeartbeats 8000000
set_option linter.unusedVariables false
set_option linter.unusedSimpArgs false
namespace Go.Proofs.YtlalbohhopmpdaaGreat.Top
open Go.Proofs.YtlalbohhopmpdaaGreat.Tiny
open Go.RowKit Go.Proofs.YtlalbohhopmpdaaGreat.PTop Go.YW.PrintWords Go.YW.PrintLast Go.YW.PrintMore Go.Proofs.YtlalbohhopmpdaaGreat.Num
attribute [local go_sem] zk zo
theorem kv (w : World) (f a n v : Int) (A B : Option Addr) (c d : Nat) (hv : 0 ≤ v ∧ v < 65536) :
    Calls Tryz.prog 167 #[.agg #[.int .i64 f, .int .i64 a, .int .i64 n, .int .u16 v, .int .u16 0, .int .u16 0, .slice A 0 c, .slice B 0 d, .int .i64 0, .int .i64 0, .int .i64 0, .int .i64 0]] w fun e w' => e = .returned (.agg #[.int .i64 a, .int .i64 n, .int .i64 v, .int .i64 0, .int .i64 0, .int .i64 0, .int .i64 0, .int .i64 0, .int .i64 0, .int .i64 0, .int .i64 0]) ∧ Below w.heap.size w w' := by
  have hu37 := Tryz.underlying37
  have hu255 := Tryz.underlying255
  have hw : wrap64 v = v := zu (by omega) (by omega)
  clear hv
  go_enter Tryz.func167, Tryz.ntmps167
  go_wp2
  refine bodyPost_ret (v := .agg #[.int .i64 a, .int .i64 n, .int .i64 v, .int .i64 0, .int .i64 0, .int .i64 0, .int .i64 0, .int .i64 0, .int .i64 0, .int .i64 0, .int .i64 0]) ?_ rfl ⟨rfl, ((Below.refl _ _).alloc (Nat.le_refl _) _).alloc (by simp) _⟩
  simp [results, Tryz.results167, go_sem, hu255]
theorem Vw (d : Nat) (a : Int) (w : World) : (Op.equalIn (d + 1) 3 (.int .i64 a) (.int .i64 a)).run Tryz.prog w = .ok true w := by
  rw [run_equalIn_int w d 3 .i64 .i64 a a Tryz.underlying3]; simp
theorem zcE (x0 x1 x2 x3 x4 x5 x6 x7 x8 x9 x10 : Int) (w : World) : (Op.equalIn 10000 255 (.agg #[.int .i64 x0, .int .i64 x1, .int .i64 x2, .int .i64 x3, .int .i64 x4, .int .i64 x5, .int .i64 x6, .int .i64 x7, .int .i64 x8, .int .i64 x9, .int .i64 x10]) (.agg #[.int .i64 x0, .int .i64 x1, .int .i64 x2, .int .i64 x3, .int .i64 x4, .int .i64 x5, .int .i64 x6, .int .i64 x7, .int .i64 x8, .int .i64 x9, .int .i64 x10])).run Tryz.prog w = .ok true w := by
  have h3 := Tryz.underlying3
  have h255 := Tryz.underlying255
  rw [show (10000 : Nat) = (9998 + 1) + 1 from rfl]
  have hs : ∀ (w : World), (sizeOf 3).run Tryz.prog w = .ok 1 w := fun w => by kernel_rfl
  rw [Op.equalIn]
  simp only [Sem.run_bind, run_underlying h255, Result.andThen_ok, hs]
  rw [Std.Legacy.Range.forIn_eq_forIn_range']
  rw [show List.range' [:11].start [:11].size [:11].step = [0, 1, 2, 3, 4, 5, 6, 7, 8, 9, 10] from rfl]
  have hp0 : ∀ (w : World), (part 3 #[.int .i64 x0, .int .i64 x1, .int .i64 x2, .int .i64 x3, .int .i64 x4, .int .i64 x5, .int .i64 x6, .int .i64 x7, .int .i64 x8, .int .i64 x9, .int .i64 x10] (0 * 1)).run Tryz.prog w = .ok (.int .i64 x0) w := fun w => by kernel_rfl
  have hp1 : ∀ (w : World), (part 3 #[.int .i64 x0, .int .i64 x1, .int .i64 x2, .int .i64 x3, .int .i64 x4, .int .i64 x5, .int .i64 x6, .int .i64 x7, .int .i64 x8, .int .i64 x9, .int .i64 x10] (1 * 1)).run Tryz.prog w = .ok (.int .i64 x1) w := fun w => by kernel_rfl
  have hp2 : ∀ (w : World), (part 3 #[.int .i64 x0, .int .i64 x1, .int .i64 x2, .int .i64 x3, .int .i64 x4, .int .i64 x5, .int .i64 x6, .int .i64 x7, .int .i64 x8, .int .i64 x9, .int .i64 x10] (2 * 1)).run Tryz.prog w = .ok (.int .i64 x2) w := fun w => by kernel_rfl
  have hp3 : ∀ (w : World), (part 3 #[.int .i64 x0, .int .i64 x1, .int .i64 x2, .int .i64 x3, .int .i64 x4, .int .i64 x5, .int .i64 x6, .int .i64 x7, .int .i64 x8, .int .i64 x9, .int .i64 x10] (3 * 1)).run Tryz.prog w = .ok (.int .i64 x3) w := fun w => by kernel_rfl
  have hp4 : ∀ (w : World), (part 3 #[.int .i64 x0, .int .i64 x1, .int .i64 x2, .int .i64 x3, .int .i64 x4, .int .i64 x5, .int .i64 x6, .int .i64 x7, .int .i64 x8, .int .i64 x9, .int .i64 x10] (4 * 1)).run Tryz.prog w = .ok (.int .i64 x4) w := fun w => by kernel_rfl
  have hp5 : ∀ (w : World), (part 3 #[.int .i64 x0, .int .i64 x1, .int .i64 x2, .int .i64 x3, .int .i64 x4, .int .i64 x5, .int .i64 x6, .int .i64 x7, .int .i64 x8, .int .i64 x9, .int .i64 x10] (5 * 1)).run Tryz.prog w = .ok (.int .i64 x5) w := fun w => by kernel_rfl
  have hp6 : ∀ (w : World), (part 3 #[.int .i64 x0, .int .i64 x1, .int .i64 x2, .int .i64 x3, .int .i64 x4, .int .i64 x5, .int .i64 x6, .int .i64 x7, .int .i64 x8, .int .i64 x9, .int .i64 x10] (6 * 1)).run Tryz.prog w = .ok (.int .i64 x6) w := fun w => by kernel_rfl
  have hp7 : ∀ (w : World), (part 3 #[.int .i64 x0, .int .i64 x1, .int .i64 x2, .int .i64 x3, .int .i64 x4, .int .i64 x5, .int .i64 x6, .int .i64 x7, .int .i64 x8, .int .i64 x9, .int .i64 x10] (7 * 1)).run Tryz.prog w = .ok (.int .i64 x7) w := fun w => by kernel_rfl
  have hp8 : ∀ (w : World), (part 3 #[.int .i64 x0, .int .i64 x1, .int .i64 x2, .int .i64 x3, .int .i64 x4, .int .i64 x5, .int .i64 x6, .int .i64 x7, .int .i64 x8, .int .i64 x9, .int .i64 x10] (8 * 1)).run Tryz.prog w = .ok (.int .i64 x8) w := fun w => by kernel_rfl
  have hp9 : ∀ (w : World), (part 3 #[.int .i64 x0, .int .i64 x1, .int .i64 x2, .int .i64 x3, .int .i64 x4, .int .i64 x5, .int .i64 x6, .int .i64 x7, .int .i64 x8, .int .i64 x9, .int .i64 x10] (9 * 1)).run Tryz.prog w = .ok (.int .i64 x9) w := fun w => by kernel_rfl
  have hp10 : ∀ (w : World), (part 3 #[.int .i64 x0, .int .i64 x1, .int .i64 x2, .int .i64 x3, .int .i64 x4, .int .i64 x5, .int .i64 x6, .int .i64 x7, .int .i64 x8, .int .i64 x9, .int .i64 x10] (10 * 1)).run Tryz.prog w = .ok (.int .i64 x10) w := fun w => by kernel_rfl
  simp only [List.forIn_cons, List.forIn_nil, Sem.run_bind, Result.andThen_ok, Vw, hp0, hp1, hp2, hp3, hp4, hp5, hp6, hp7, hp8, hp9, hp10, Bool.not_true, Bool.false_eq_true, if_false, Sem.run_pure]
def qV (a n : Int) : Array Value := #[.int .i64 3, .int .i64 a, .int .i64 n, .int .u16 0, .int .u16 0, .int .u16 0, .slice none 0 0, .slice none 0 0, .int .i64 0, .int .i64 0, .int .i64 0, .int .i64 0]
theorem kD (w : World) (a n : Int) (ha : 0 ≤ a ∧ a < 256) (hn : 1 ≤ n ∧ n ≤ 125) :
    Calls Tryz.prog 134 #[jF a n] w fun e w' => e = .returned (.bool true) ∧ Below w.heap.size w w' := by
  have hu37 := Tryz.underlying37
  have hu255 := Tryz.underlying255
  have heq : ∀ W : World, (Op.equalIn 10000 255 (.agg #[.int .i64 a, .int .i64 n, .int .i64 0, .int .i64 0, .int .i64 0, .int .i64 0, .int .i64 0, .int .i64 0, .int .i64 0, .int .i64 0, .int .i64 0]) (.agg #[.int .i64 a, .int .i64 n, .int .i64 0, .int .i64 0, .int .i64 0, .int .i64 0, .int .i64 0, .int .i64 0, .int .i64 0, .int .i64 0, .int .i64 0])).run Tryz.prog W = .ok true W := fun W => zcE a n 0 0 0 0 0 0 0 0 0 W
  have hb1 : Below w.heap.size w ((w.alloc (.cells (qV a n) 37)).drew) := ((Below.refl _ _).alloc (Nat.le_refl _) _).trans (zl (Below.refl _ _))
  have B2 := hQ hb1
  have X2 := hQ (zb (zi w (.cells (qV a n) 37 (0, 0))) (zl (Below.refl _ _)))
  have HA := hQ ha
  have HN := hQ hn
  clear ha hn hb1
  simp only [jF]
  go_enter Tryz.func134, Tryz.ntmps134
  go_wp2_with (fail)
--WALKR
  refine sq_ (ds := []) #[false, false, false, false, false, false, false, false, false, false, false, false, false, false, false, false, false, false, false, false, false, false, false, false] (fun w' => w'.cell? ⟨w.heap.size, 0, none⟩ = some (.int .i64 3) ∧ w'.cell? ⟨w.heap.size, 1, none⟩ = some (.int .i64 a) ∧ w'.cell? ⟨w.heap.size, 2, none⟩ = some (.int .i64 n) ∧ w'.cell? ⟨w.heap.size, 3, none⟩ = some (.int .u16 0) ∧ w'.cell? ⟨w.heap.size, 4, none⟩ = some (.int .u16 0) ∧ w'.cell? ⟨w.heap.size, 5, none⟩ = some (.int .u16 0) ∧ w'.cell? ⟨w.heap.size, 6, none⟩ = some (.slice none 0 0) ∧ w'.cell? ⟨w.heap.size, 7, none⟩ = some (.slice none 0 0) ∧ w'.cell? ⟨w.heap.size, 8, none⟩ = some (.int .i64 0) ∧ w'.cell? ⟨w.heap.size, 9, none⟩ = some (.int .i64 0) ∧ w'.cell? ⟨w.heap.size, 10, none⟩ = some (.int .i64 0) ∧ w'.cell? ⟨w.heap.size, 11, none⟩ = some (.int .i64 0)) ⟨za X2.out 0, za X2.out 1, za X2.out 2, za X2.out 3, za X2.out 4, za X2.out 5, za X2.out 6, za X2.out 7, za X2.out 8, za X2.out 9, za X2.out 10, za X2.out 11⟩ (fun hHeld => ?_)
  refine pq_ 0 (some 5) ?_
  refine tq_ 1 (some 6) hHeld ?_
  refine oq_ 2 (some 7) (fun K hK => ?_)
  refine yh Tryz.func132 (by kernel_rfl) rfl #[.int .i64 3] (by rfl) rfl rfl (by (try simp only [List.map_toArray, List.map_cons, List.map_nil]); first | done | rfl) ?_
  refine (Qa _).mono ?_
  rintro e w3 ⟨rfl, hd⟩
  refine ⟨_, rfl, ?_⟩
  have B3 := hQ (zf B2.out B2.out.size hd.below)
  have X3 := hQ (zb X2.out hd.below)
  clear hd
  refine hK.out _ _ ⟨za X3.out 0, za X3.out 1, za X3.out 2, za X3.out 3, za X3.out 4, za X3.out 5, za X3.out 6, za X3.out 7, za X3.out 8, za X3.out 9, za X3.out 10, za X3.out 11⟩ (fun hHeld => ?_)
  clear hK K
  refine nq_ ?_
  refine pq_ 3 (some 8) ?_
  refine pq_ 4 (some 9) ?_
  refine tq_ 5 (some 10) hHeld ?_
  refine tq_ 7 (some 12) hHeld ?_
  refine oq_ 6 (some 11) (fun K hK => ?_)
  refine yh Tryz.func167 (by kernel_rfl) rfl #[.agg #[.int .i64 3, .int .i64 a, .int .i64 n, .int .u16 0, .int .u16 0, .int .u16 0, .slice none 0 0, .slice none 0 0, .int .i64 0, .int .i64 0, .int .i64 0, .int .i64 0]] (by rfl) rfl rfl (by (try simp only [List.map_toArray, List.map_cons, List.map_nil]); first | done | rfl) ?_
  refine (kv _ 3 a n 0 none none 0 0 (by omega)).mono ?_
  rintro e w4 ⟨rfl, hb⟩
  refine ⟨_, rfl, ?_⟩
  have B4 := hQ (zf B3.out B3.out.size hb)
  have X4 := hQ (zb X3.out hb)
  clear hb
  refine hK.out _ _ ⟨za X4.out 0, za X4.out 1, za X4.out 2, za X4.out 3, za X4.out 4, za X4.out 5, za X4.out 6, za X4.out 7, za X4.out 8, za X4.out 9, za X4.out 10, za X4.out 11⟩ (fun hHeld => ?_)
  clear hK K
  refine nq_ ?_
  refine oq_ 8 (some 13) (fun K hK => ?_)
  refine yh Tryz.func168 (by kernel_rfl) rfl #[.agg #[.int .i64 3, .int .i64 a, .int .i64 n, .int .u16 0, .int .u16 0, .int .u16 0, .slice none 0 0, .slice none 0 0, .int .i64 0, .int .i64 0, .int .i64 0, .int .i64 0]] (by rfl) rfl rfl (by (try simp only [List.map_toArray, List.map_cons, List.map_nil]); first | done | rfl) ?_
  refine (zdt _ a n).mono ?_
  rintro e w5 ⟨rfl, hb⟩
  refine ⟨_, rfl, ?_⟩
  have B5 := hQ (zf B4.out B4.out.size hb)
  have X5 := hQ (zb X4.out hb)
  clear hb
  refine hK.out _ _ ⟨za X5.out 0, za X5.out 1, za X5.out 2, za X5.out 3, za X5.out 4, za X5.out 5, za X5.out 6, za X5.out 7, za X5.out 8, za X5.out 9, za X5.out 10, za X5.out 11⟩ (fun hHeld => ?_)
  clear hK K
  refine nq_ ?_
  refine oq_ 9 (some 14) (fun K hK => ?_)
  refine yh Tryz.func167 (by kernel_rfl) rfl #[.agg #[.int .i64 3, .int .i64 a, .int .i64 n, .int .u16 0, .int .u16 0, .int .u16 0, .slice none 0 0, .slice none 0 0, .int .i64 0, .int .i64 0, .int .i64 0, .int .i64 0]] (by rfl) rfl rfl (by (try simp only [List.map_toArray, List.map_cons, List.map_nil]); first | done | rfl) ?_
  refine (kv _ 3 a n 0 none none 0 0 (by omega)).mono ?_
  rintro e w6 ⟨rfl, hb⟩
  refine ⟨_, rfl, ?_⟩
  have B6 := hQ (zf B5.out B5.out.size hb)
  have X6 := hQ (zb X5.out hb)
  clear hb
  refine hK.out _ _ ⟨za X6.out 0, za X6.out 1, za X6.out 2, za X6.out 3, za X6.out 4, za X6.out 5, za X6.out 6, za X6.out 7, za X6.out 8, za X6.out 9, za X6.out 10, za X6.out 11⟩ (fun hHeld => ?_)
  clear hK K
  refine nq_ ?_
  refine pq_ 10 (some 15) ?_
  refine pq_ 11 (some 16) ?_
  refine pq_ 12 (some 17) ?_
  refine pq_ 13 (some 18) ?_
  refine tq_ 14 (some 19) hHeld ?_
  refine oq_ 15 (some 20) (fun K hK => ?_)
  refine yh Tryz.func169 (by kernel_rfl) rfl #[.int .i64 a] (by rfl) rfl rfl (by (try simp only [List.map_toArray, List.map_cons, List.map_nil]); first | done | rfl) ?_
  refine (VI _ a HA.out).mono ?_
  rintro e w7 ⟨rfl, hd⟩
  refine ⟨_, rfl, ?_⟩
  have B7 := hQ (zf B6.out B6.out.size hd.below)
  have X7 := hQ (zb X6.out hd.below)
  clear hd
  refine hK.out _ _ ⟨za X7.out 0, za X7.out 1, za X7.out 2, za X7.out 3, za X7.out 4, za X7.out 5, za X7.out 6, za X7.out 7, za X7.out 8, za X7.out 9, za X7.out 10, za X7.out 11⟩ (fun hHeld => ?_)
  clear hK K
  refine nq_ ?_
  refine pq_ 16 (some 21) ?_
  refine pq_ 17 (some 22) ?_
  refine pq_ 18 (some 23) ?_
  refine pq_ 19 (some 24) ?_
  refine tq_ 20 (some 25) hHeld ?_
  refine oq_ 21 (some 26) (fun K hK => ?_)
  refine yh Tryz.func169 (by kernel_rfl) rfl #[.int .i64 0] (by rfl) rfl rfl (by (try simp only [List.map_toArray, List.map_cons, List.map_nil]); first | done | rfl) ?_
  refine (VI _ 0 (by omega)).mono ?_
  rintro e w8 ⟨rfl, hd⟩
  refine ⟨_, rfl, ?_⟩
  have B8 := hQ (zf B7.out B7.out.size hd.below)
  have X8 := hQ (zb X7.out hd.below)
  clear hd
  refine hK.out _ _ ⟨za X8.out 0, za X8.out 1, za X8.out 2, za X8.out 3, za X8.out 4, za X8.out 5, za X8.out 6, za X8.out 7, za X8.out 8, za X8.out 9, za X8.out 10, za X8.out 11⟩ (fun hHeld => ?_)
  clear hK K
  refine nq_ ?_
  refine pq_ 22 (some 27) ?_
  refine pq_ 23 (some 28) ?_
  refine xJ (by kernel_rfl) ?_
  --ENDR
  go_wp2_with (fail)
  refine (zaR _).mono ?_
  rintro e w9 ⟨rfl, hd⟩
  have B9 := hQ (zf B8.out B8.out.size hd.below)
  have X9 := hQ (zb X8.out hd.below)
  clear hd
  obtain ⟨x0, x1, x2, x3, x4, x5, x6, x7, x8, x9, x10, x11⟩ := zV X9.out
  go_wp2_with (fail)
  refine (zbY _ n HN.out).mono ?_
  rintro e w10 ⟨rfl, hd⟩
  have B10 := hQ (zf B9.out B9.out.size hd.below)
  clear hd
  go_wp2
  exact bodyPost_ret (v := .bool true) (by simp [results, Tryz.results134, go_sem]) rfl ⟨rfl, B10.out⟩
def xS (a v : Int) : Array Value := #[.int .i64 6, .int .i64 a, .int .i64 0, .int .u16 v, .int .u16 0, .int .u16 0, .slice none 0 0, .slice none 0 0, .int .i64 0, .int .i64 0, .int .i64 0, .int .i64 0]
theorem qX (w : World) (a v : Int) (ha : 0 ≤ a ∧ a < 256) (hn : 0 ≤ v ∧ v < 65536) :
    Calls Tryz.prog 134 #[qF a v] w fun e w' => e = .returned (.bool true) ∧ Below w.heap.size w w' := by
  have hu37 := Tryz.underlying37
  have hu255 := Tryz.underlying255
  have heq : ∀ W : World, (Op.equalIn 10000 255 (.agg #[.int .i64 a, .int .i64 0, .int .i64 v, .int .i64 0, .int .i64 0, .int .i64 0, .int .i64 0, .int .i64 0, .int .i64 0, .int .i64 0, .int .i64 0]) (.agg #[.int .i64 a, .int .i64 0, .int .i64 v, .int .i64 0, .int .i64 0, .int .i64 0, .int .i64 0, .int .i64 0, .int .i64 0, .int .i64 0, .int .i64 0])).run Tryz.prog W = .ok true W := fun W => zcE a 0 v 0 0 0 0 0 0 0 0 W
  have hb1 : Below w.heap.size w ((w.alloc (.cells (xS a v) 37)).drew) := ((Below.refl _ _).alloc (Nat.le_refl _) _).trans (zl (Below.refl _ _))
  have B2 := hQ hb1
  have X2 := hQ (zb (zi w (.cells (xS a v) 37 (0, 0))) (zl (Below.refl _ _)))
  have HA := hQ ha
  have HV := hQ hn
  clear ha hn hb1
  simp only [qF]
  go_enter Tryz.func134, Tryz.ntmps134
  go_wp2_with (fail)
--WALKW
  refine sq_ (ds := []) #[false, false, false, false, false, false, false, false, false, false, false, false, false, false, false, false, false, false, false, false, false, false, false, false] (fun w' => w'.cell? ⟨w.heap.size, 0, none⟩ = some (.int .i64 6) ∧ w'.cell? ⟨w.heap.size, 1, none⟩ = some (.int .i64 a) ∧ w'.cell? ⟨w.heap.size, 2, none⟩ = some (.int .i64 0) ∧ w'.cell? ⟨w.heap.size, 3, none⟩ = some (.int .u16 v) ∧ w'.cell? ⟨w.heap.size, 4, none⟩ = some (.int .u16 0) ∧ w'.cell? ⟨w.heap.size, 5, none⟩ = some (.int .u16 0) ∧ w'.cell? ⟨w.heap.size, 6, none⟩ = some (.slice none 0 0) ∧ w'.cell? ⟨w.heap.size, 7, none⟩ = some (.slice none 0 0) ∧ w'.cell? ⟨w.heap.size, 8, none⟩ = some (.int .i64 0) ∧ w'.cell? ⟨w.heap.size, 9, none⟩ = some (.int .i64 0) ∧ w'.cell? ⟨w.heap.size, 10, none⟩ = some (.int .i64 0) ∧ w'.cell? ⟨w.heap.size, 11, none⟩ = some (.int .i64 0)) ⟨za X2.out 0, za X2.out 1, za X2.out 2, za X2.out 3, za X2.out 4, za X2.out 5, za X2.out 6, za X2.out 7, za X2.out 8, za X2.out 9, za X2.out 10, za X2.out 11⟩ (fun hHeld => ?_)
  refine pq_ 0 (some 5) ?_
  refine tq_ 1 (some 6) hHeld ?_
  refine oq_ 2 (some 7) (fun K hK => ?_)
  refine yh Tryz.func132 (by kernel_rfl) rfl #[.int .i64 6] (by rfl) rfl rfl (by (try simp only [List.map_toArray, List.map_cons, List.map_nil]); first | done | rfl) ?_
  refine (QP _).mono ?_
  rintro e w3 ⟨rfl, hd⟩
  refine ⟨_, rfl, ?_⟩
  have B3 := hQ (zf B2.out B2.out.size hd.below)
  have X3 := hQ (zb X2.out hd.below)
  clear hd
  refine hK.out _ _ ⟨za X3.out 0, za X3.out 1, za X3.out 2, za X3.out 3, za X3.out 4, za X3.out 5, za X3.out 6, za X3.out 7, za X3.out 8, za X3.out 9, za X3.out 10, za X3.out 11⟩ (fun hHeld => ?_)
  clear hK K
  refine nq_ ?_
  refine pq_ 3 (some 8) ?_
  refine pq_ 4 (some 9) ?_
  refine tq_ 5 (some 10) hHeld ?_
  refine tq_ 7 (some 12) hHeld ?_
  refine oq_ 6 (some 11) (fun K hK => ?_)
  refine yh Tryz.func167 (by kernel_rfl) rfl #[.agg #[.int .i64 6, .int .i64 a, .int .i64 0, .int .u16 v, .int .u16 0, .int .u16 0, .slice none 0 0, .slice none 0 0, .int .i64 0, .int .i64 0, .int .i64 0, .int .i64 0]] (by rfl) rfl rfl (by (try simp only [List.map_toArray, List.map_cons, List.map_nil]); first | done | rfl) ?_
  refine (kv _ 6 a 0 v none none 0 0 HV.out).mono ?_
  rintro e w4 ⟨rfl, hb⟩
  refine ⟨_, rfl, ?_⟩
  have B4 := hQ (zf B3.out B3.out.size hb)
  have X4 := hQ (zb X3.out hb)
  clear hb
  refine hK.out _ _ ⟨za X4.out 0, za X4.out 1, za X4.out 2, za X4.out 3, za X4.out 4, za X4.out 5, za X4.out 6, za X4.out 7, za X4.out 8, za X4.out 9, za X4.out 10, za X4.out 11⟩ (fun hHeld => ?_)
  clear hK K
  refine nq_ ?_
  refine oq_ 8 (some 13) (fun K hK => ?_)
  refine yh Tryz.func168 (by kernel_rfl) rfl #[.agg #[.int .i64 6, .int .i64 a, .int .i64 0, .int .u16 v, .int .u16 0, .int .u16 0, .slice none 0 0, .slice none 0 0, .int .i64 0, .int .i64 0, .int .i64 0, .int .i64 0]] (by rfl) rfl rfl (by (try simp only [List.map_toArray, List.map_cons, List.map_nil]); first | done | rfl) ?_
  refine (zdq _ a v).mono ?_
  rintro e w5 ⟨rfl, hb⟩
  refine ⟨_, rfl, ?_⟩
  have B5 := hQ (zf B4.out B4.out.size hb)
  have X5 := hQ (zb X4.out hb)
  clear hb
  refine hK.out _ _ ⟨za X5.out 0, za X5.out 1, za X5.out 2, za X5.out 3, za X5.out 4, za X5.out 5, za X5.out 6, za X5.out 7, za X5.out 8, za X5.out 9, za X5.out 10, za X5.out 11⟩ (fun hHeld => ?_)
  clear hK K
  refine nq_ ?_
  refine oq_ 9 (some 14) (fun K hK => ?_)
  refine yh Tryz.func167 (by kernel_rfl) rfl #[.agg #[.int .i64 6, .int .i64 a, .int .i64 0, .int .u16 v, .int .u16 0, .int .u16 0, .slice none 0 0, .slice none 0 0, .int .i64 0, .int .i64 0, .int .i64 0, .int .i64 0]] (by rfl) rfl rfl (by (try simp only [List.map_toArray, List.map_cons, List.map_nil]); first | done | rfl) ?_
  refine (kv _ 6 a 0 v none none 0 0 HV.out).mono ?_
  rintro e w6 ⟨rfl, hb⟩
  refine ⟨_, rfl, ?_⟩
  have B6 := hQ (zf B5.out B5.out.size hb)
  have X6 := hQ (zb X5.out hb)
  clear hb
  refine hK.out _ _ ⟨za X6.out 0, za X6.out 1, za X6.out 2, za X6.out 3, za X6.out 4, za X6.out 5, za X6.out 6, za X6.out 7, za X6.out 8, za X6.out 9, za X6.out 10, za X6.out 11⟩ (fun hHeld => ?_)
  clear hK K
  refine nq_ ?_
  refine pq_ 10 (some 15) ?_
  refine pq_ 11 (some 16) ?_
  refine pq_ 12 (some 17) ?_
  refine pq_ 13 (some 18) ?_
  refine tq_ 14 (some 19) hHeld ?_
  refine oq_ 15 (some 20) (fun K hK => ?_)
  refine yh Tryz.func169 (by kernel_rfl) rfl #[.int .i64 a] (by rfl) rfl rfl (by (try simp only [List.map_toArray, List.map_cons, List.map_nil]); first | done | rfl) ?_
  refine (VI _ a HA.out).mono ?_
  rintro e w7 ⟨rfl, hd⟩
  refine ⟨_, rfl, ?_⟩
  have B7 := hQ (zf B6.out B6.out.size hd.below)
  have X7 := hQ (zb X6.out hd.below)
  clear hd
  refine hK.out _ _ ⟨za X7.out 0, za X7.out 1, za X7.out 2, za X7.out 3, za X7.out 4, za X7.out 5, za X7.out 6, za X7.out 7, za X7.out 8, za X7.out 9, za X7.out 10, za X7.out 11⟩ (fun hHeld => ?_)
  clear hK K
  refine nq_ ?_
  refine pq_ 16 (some 21) ?_
  refine pq_ 17 (some 22) ?_
  refine pq_ 18 (some 23) ?_
  refine pq_ 19 (some 24) ?_
  refine tq_ 20 (some 25) hHeld ?_
  refine oq_ 21 (some 26) (fun K hK => ?_)
  refine yh Tryz.func169 (by kernel_rfl) rfl #[.int .i64 0] (by rfl) rfl rfl (by (try simp only [List.map_toArray, List.map_cons, List.map_nil]); first | done | rfl) ?_
  refine (VI _ 0 (by omega)).mono ?_
  rintro e w8 ⟨rfl, hd⟩
  refine ⟨_, rfl, ?_⟩
  have B8 := hQ (zf B7.out B7.out.size hd.below)
  have X8 := hQ (zb X7.out hd.below)
  clear hd
  refine hK.out _ _ ⟨za X8.out 0, za X8.out 1, za X8.out 2, za X8.out 3, za X8.out 4, za X8.out 5, za X8.out 6, za X8.out 7, za X8.out 8, za X8.out 9, za X8.out 10, za X8.out 11⟩ (fun hHeld => ?_)
  clear hK K
  refine nq_ ?_
  refine pq_ 22 (some 27) ?_
  refine pq_ 23 (some 28) ?_
  refine xJ (by kernel_rfl) ?_
  --ENDW
  go_wp2_with (fail)
  refine (zbm _).mono ?_
  rintro e w9 ⟨rfl, hd⟩
  have B9 := hQ (zf B8.out B8.out.size hd.below)
  have X9 := hQ (zb X8.out hd.below)
  clear hd
  obtain ⟨x0, x1, x2, x3, x4, x5, x6, x7, x8, x9, x10, x11⟩ := zV X9.out
  go_wp2
  exact bodyPost_ret (v := .bool true) (by simp [results, Tryz.results134, go_sem]) rfl ⟨rfl, B9.out⟩
def Zl (a b : Int) : Obj := .cells #[.int .i64 2, .int .i64 a, .int .i64 b] 78 (0, 0)
theorem Kh (w : World) (a n : Int) (ha : 0 ≤ a ∧ a < 256) (hn : 1 ≤ n ∧ n ≤ 125) :
    Calls Tryz.prog 136 #[jF a n] w fun e w' => ∃ g, e = .returned (.tuple #[.slice (some ⟨g, 0, none⟩) 1 1, .slice none 0 0]) ∧ w'.heap[g]? = some (Zl a (a + n)) ∧ w.heap.size ≤ g ∧ Below w.heap.size w w' := by
  have hu37 := Tryz.underlying37
  have hb1 : Below w.heap.size w (w.alloc (.cells (qV a n) 37)) := (Below.refl _ _).alloc (Nat.le_refl _) _
  have B1 := hQ hb1
  have X1 := hQ (zi w (.cells (qV a n) 37 (0, 0)))
  have HA := hQ ha
  have HN := hQ hn
  have hw : wrap64 (a + n) = a + n := zu (by omega) (by omega)
  clear ha hn hb1
  simp only [jF]
  go_enter Tryz.func136, Tryz.ntmps136
  go_wp2_with (fail)
  refine (kD _ a n HA.out HN.out).mono ?_
  rintro e w2 ⟨rfl, hb⟩
  have B2 := hQ (zf B1.out B1.out.size hb)
  have X2 := hQ (zb X1.out hb)
  clear hb
  obtain ⟨x0, x1, x2, x3, x4, x5, x6, x7, x8, x9, x10, x11⟩ := zV X2.out
  go_wp2_with (fail)
  refine (zcb _).mono ?_
  rintro e w3 ⟨rfl, hd⟩
  have B3 := hQ (zf B2.out B2.out.size hd.below)
  have X3 := hQ (zb X2.out hd.below)
  clear hd x0 x1 x2 x3 x4 x5 x6 x7 x8 x9 x10 x11
  obtain ⟨x0, x1, x2, x3, x4, x5, x6, x7, x8, x9, x10, x11⟩ := zV X3.out
  obtain ⟨W4, hW4⟩ : ∃ W4, W4 = w3.alloc (Zl a (a + n)) := ⟨_, rfl⟩
  have hb4 : Below w3.heap.size w3 W4 := by rw [hW4]; exact (Below.refl _ _).alloc (Nat.le_refl _) _
  have y0 : (w3.alloc (Zl a (a + n))).cell? ⟨w.heap.size, 0, none⟩ = some (.int .i64 3) := by rw [← hW4]; exact za (zb X3.out hb4) 0
  have G4 := hQ (show W4.heap[w3.heap.size]? = some (Zl a (a + n)) by rw [hW4]; exact zi w3 _)
  have B4 := hQ (zf B3.out B3.out.size hb4)
  rw [hW4] at G4 B4
  clear hb4 hW4
  simp only [Zl] at y0
  go_wp2
  exact bodyPost_ret (v := .tuple #[.slice (some ⟨w3.heap.size, 0, none⟩) 1 1, .slice none 0 0]) (by simp [results, Tryz.results136, go_sem]) rfl ⟨w3.heap.size, rfl, G4.out, B3.out.size, B4.out⟩
theorem Yu (w : World) (a v : Int) (ha : 0 ≤ a ∧ a < 256) (hn : 0 ≤ v ∧ v < 65536) :
    Calls Tryz.prog 136 #[qF a v] w fun e w' => ∃ g, e = .returned (.tuple #[.slice none 0 0, .slice (some ⟨g, 0, none⟩) 1 1]) ∧ w'.heap[g]? = some (Zl a (a + 1)) ∧ w.heap.size ≤ g ∧ Below w.heap.size w w' := by
  have hu37 := Tryz.underlying37
  have hb1 : Below w.heap.size w (w.alloc (.cells (xS a v) 37)) := (Below.refl _ _).alloc (Nat.le_refl _) _
  have B1 := hQ hb1
  have X1 := hQ (zi w (.cells (xS a v) 37 (0, 0)))
  have HA := hQ ha
  have HN := hQ hn
  have hw : wrap64 (a + 1) = a + 1 := zu (by omega) (by omega)
  clear ha hn hb1
  simp only [qF]
  go_enter Tryz.func136, Tryz.ntmps136
  go_wp2_with (fail)
  refine (qX _ a v HA.out HN.out).mono ?_
  rintro e w2 ⟨rfl, hb⟩
  have B2 := hQ (zf B1.out B1.out.size hb)
  have X2 := hQ (zb X1.out hb)
  clear hb
  obtain ⟨x0, x1, x2, x3, x4, x5, x6, x7, x8, x9, x10, x11⟩ := zV X2.out
  go_wp2_with (fail)
  refine (zcf _).mono ?_
  rintro e w3 ⟨rfl, hd⟩
  have B3 := hQ (zf B2.out B2.out.size hd.below)
  have X3 := hQ (zb X2.out hd.below)
  clear hd x0 x1 x2 x3 x4 x5 x6 x7 x8 x9 x10 x11
  obtain ⟨x0, x1, x2, x3, x4, x5, x6, x7, x8, x9, x10, x11⟩ := zV X3.out
  obtain ⟨W4, hW4⟩ : ∃ W4, W4 = w3.alloc (Zl a (a + 0)) := ⟨_, rfl⟩
  have hb4 : Below w3.heap.size w3 W4 := by rw [hW4]; exact (Below.refl _ _).alloc (Nat.le_refl _) _
  have B4 := hQ (zf B3.out B3.out.size hb4)
  have X4 := hQ (zb X3.out hb4)
  have hz : W4.heap.size = w3.heap.size + 1 := by rw [hW4]; simp
  obtain ⟨y0, y1, y2, y3, y4, y5, y6, y7, y8, y9, y10, y11⟩ := zV X4.out
  obtain ⟨W5, hW5⟩ : ∃ W5, W5 = W4.alloc (Zl a (a + 1)) := ⟨_, rfl⟩
  have hb5 : Below W4.heap.size W4 W5 := by rw [hW5]; exact (Below.refl _ _).alloc (Nat.le_refl _) _
  have G5 := hQ (show W5.heap[W4.heap.size]? = some (Zl a (a + 1)) by rw [hW5]; exact zi W4 _)
  have B5 := hQ (zf B4.out B4.out.size hb5)
  have hw0 : wrap64 (a + 0) = a + 0 := zu (by have := HA.out; omega) (by have := HA.out; omega)
  have SZ := hQ (show w.heap.size ≤ w3.heap.size + 1 from Nat.le_succ_of_le B3.out.size)
  rw [hz] at G5
  rw [hW5, hW4] at G5 B5
  rw [hW4] at y0 y1 y2 y3 y4 y5 y6 y7 y8 y9 y10 y11
  clear hb4 hW4 hb5 hW5 hz B4 X4
  simp only [Zl, Int.add_zero] at y0 y1 y2 y3 y4 y5 y6 y7 y8 y9 y10 y11 G5 B5 hw0
  go_wp2
  exact bodyPost_ret (v := .tuple #[.slice none 0 0, .slice (some ⟨w3.heap.size + 1, 0, none⟩) 1 1]) (by simp [results, Tryz.results136, go_sem]) rfl ⟨w3.heap.size + 1, rfl, G5.out, SZ.out, B5.out⟩
end Go.Proofs.YtlalbohhopmpdaaGreat.Top
namespace Go.Proofs.YtlalbohhopmpdaaGreat.PTop
open Go.RowKit Go.YW.PrintWords Go.YW.PrintLast Go.YW.PrintMore
attribute [local go_sem] yN yO xu xw yP yR xm xq zk zo   -- for this text's walks alone
def Xm.f (a0 : Bool) : Option (Int) := if a0 = true then (some 1) else (some 0)
theorem Xm.calls (a0 : Bool) (r : Int) (w : World) (h : Xm.f a0 = some r) :
  Calls Tryz.prog 148 #[.bool a0] w fun e w' => e = .returned (.int .i64 r) ∧ zw w w' := by
 have H : (if a0 = true then (some 1) else (some 0)) = some r := h
 clear h
 by_cases c2 : a0 = true
 ·
  subst c2
  have H1 : (some 1) = some r := by rw [if_pos rfl] at H; exact H
  clear H
  have H := H1
  clear H1
  obtain rfl := Option.some.inj H
  go_enter Tryz.func148, Tryz.ntmps148
  go_wp2
  go_ret
  exact ⟨by first | rfl | (simp; done) | (simp [*]; done), by repeat (first | exact zw.refl _ | apply zw.step)⟩
 ·
  replace c2 := Bool.eq_false_iff.mpr c2
  subst c2
  have H1 : (some 0) = some r := by rw [if_neg (show ¬ (false = true) by decide)] at H; exact H
  clear H
  have H := H1
  clear H1
  obtain rfl := Option.some.inj H
  go_enter Tryz.func148, Tryz.ntmps148
  go_wp2
  go_ret
  exact ⟨by first | rfl | (simp; done) | (simp [*]; done), by repeat (first | exact zw.refl _ | apply zw.step)⟩
end Go.Proofs.YtlalbohhopmpdaaGreat.PTop
namespace Go.Proofs.YtlalbohhopmpdaaGreat.Top
open Go.Proofs.YtlalbohhopmpdaaGreat.Tiny
open Go.RowKit Go.Proofs.YtlalbohhopmpdaaGreat.PTop Go.YW.PrintWords Go.YW.PrintLast Go.YW.PrintMore Go.Proofs.YtlalbohhopmpdaaGreat.Num
attribute [local go_sem] zk zo
theorem zcz (x0 x1 x2 x3 x4 x5 x6 x7 x8 x9 x10 x11 : Int) (w : World) : (Op.equalIn 10000 274 (.agg #[.int .i64 x0, .int .i64 x1, .int .i64 x2, .int .i64 x3, .int .i64 x4, .int .i64 x5, .int .i64 x6, .int .i64 x7, .int .i64 x8, .int .i64 x9, .int .i64 x10, .int .i64 x11]) (.agg #[.int .i64 x0, .int .i64 x1, .int .i64 x2, .int .i64 x3, .int .i64 x4, .int .i64 x5, .int .i64 x6, .int .i64 x7, .int .i64 x8, .int .i64 x9, .int .i64 x10, .int .i64 x11])).run Tryz.prog w = .ok true w := by
  have h274 := Tryz.underlying274
  rw [show (10000 : Nat) = (9998 + 1) + 1 from rfl]
  have hs : ∀ (w : World), (sizeOf 3).run Tryz.prog w = .ok 1 w := fun w => by kernel_rfl
  rw [Op.equalIn]
  simp only [Sem.run_bind, run_underlying h274, Result.andThen_ok, hs]
  rw [Std.Legacy.Range.forIn_eq_forIn_range']
  rw [show List.range' [:12].start [:12].size [:12].step = [0, 1, 2, 3, 4, 5, 6, 7, 8, 9, 10, 11] from rfl]
  have hp0 : ∀ (w : World), (part 3 #[.int .i64 x0, .int .i64 x1, .int .i64 x2, .int .i64 x3, .int .i64 x4, .int .i64 x5, .int .i64 x6, .int .i64 x7, .int .i64 x8, .int .i64 x9, .int .i64 x10, .int .i64 x11] (0 * 1)).run Tryz.prog w = .ok (.int .i64 x0) w := fun w => by kernel_rfl
  have hp1 : ∀ (w : World), (part 3 #[.int .i64 x0, .int .i64 x1, .int .i64 x2, .int .i64 x3, .int .i64 x4, .int .i64 x5, .int .i64 x6, .int .i64 x7, .int .i64 x8, .int .i64 x9, .int .i64 x10, .int .i64 x11] (1 * 1)).run Tryz.prog w = .ok (.int .i64 x1) w := fun w => by kernel_rfl
  have hp2 : ∀ (w : World), (part 3 #[.int .i64 x0, .int .i64 x1, .int .i64 x2, .int .i64 x3, .int .i64 x4, .int .i64 x5, .int .i64 x6, .int .i64 x7, .int .i64 x8, .int .i64 x9, .int .i64 x10, .int .i64 x11] (2 * 1)).run Tryz.prog w = .ok (.int .i64 x2) w := fun w => by kernel_rfl
  have hp3 : ∀ (w : World), (part 3 #[.int .i64 x0, .int .i64 x1, .int .i64 x2, .int .i64 x3, .int .i64 x4, .int .i64 x5, .int .i64 x6, .int .i64 x7, .int .i64 x8, .int .i64 x9, .int .i64 x10, .int .i64 x11] (3 * 1)).run Tryz.prog w = .ok (.int .i64 x3) w := fun w => by kernel_rfl
  have hp4 : ∀ (w : World), (part 3 #[.int .i64 x0, .int .i64 x1, .int .i64 x2, .int .i64 x3, .int .i64 x4, .int .i64 x5, .int .i64 x6, .int .i64 x7, .int .i64 x8, .int .i64 x9, .int .i64 x10, .int .i64 x11] (4 * 1)).run Tryz.prog w = .ok (.int .i64 x4) w := fun w => by kernel_rfl
  have hp5 : ∀ (w : World), (part 3 #[.int .i64 x0, .int .i64 x1, .int .i64 x2, .int .i64 x3, .int .i64 x4, .int .i64 x5, .int .i64 x6, .int .i64 x7, .int .i64 x8, .int .i64 x9, .int .i64 x10, .int .i64 x11] (5 * 1)).run Tryz.prog w = .ok (.int .i64 x5) w := fun w => by kernel_rfl
  have hp6 : ∀ (w : World), (part 3 #[.int .i64 x0, .int .i64 x1, .int .i64 x2, .int .i64 x3, .int .i64 x4, .int .i64 x5, .int .i64 x6, .int .i64 x7, .int .i64 x8, .int .i64 x9, .int .i64 x10, .int .i64 x11] (6 * 1)).run Tryz.prog w = .ok (.int .i64 x6) w := fun w => by kernel_rfl
  have hp7 : ∀ (w : World), (part 3 #[.int .i64 x0, .int .i64 x1, .int .i64 x2, .int .i64 x3, .int .i64 x4, .int .i64 x5, .int .i64 x6, .int .i64 x7, .int .i64 x8, .int .i64 x9, .int .i64 x10, .int .i64 x11] (7 * 1)).run Tryz.prog w = .ok (.int .i64 x7) w := fun w => by kernel_rfl
  have hp8 : ∀ (w : World), (part 3 #[.int .i64 x0, .int .i64 x1, .int .i64 x2, .int .i64 x3, .int .i64 x4, .int .i64 x5, .int .i64 x6, .int .i64 x7, .int .i64 x8, .int .i64 x9, .int .i64 x10, .int .i64 x11] (8 * 1)).run Tryz.prog w = .ok (.int .i64 x8) w := fun w => by kernel_rfl
  have hp9 : ∀ (w : World), (part 3 #[.int .i64 x0, .int .i64 x1, .int .i64 x2, .int .i64 x3, .int .i64 x4, .int .i64 x5, .int .i64 x6, .int .i64 x7, .int .i64 x8, .int .i64 x9, .int .i64 x10, .int .i64 x11] (9 * 1)).run Tryz.prog w = .ok (.int .i64 x9) w := fun w => by kernel_rfl
  have hp10 : ∀ (w : World), (part 3 #[.int .i64 x0, .int .i64 x1, .int .i64 x2, .int .i64 x3, .int .i64 x4, .int .i64 x5, .int .i64 x6, .int .i64 x7, .int .i64 x8, .int .i64 x9, .int .i64 x10, .int .i64 x11] (10 * 1)).run Tryz.prog w = .ok (.int .i64 x10) w := fun w => by kernel_rfl
  have hp11 : ∀ (w : World), (part 3 #[.int .i64 x0, .int .i64 x1, .int .i64 x2, .int .i64 x3, .int .i64 x4, .int .i64 x5, .int .i64 x6, .int .i64 x7, .int .i64 x8, .int .i64 x9, .int .i64 x10, .int .i64 x11] (11 * 1)).run Tryz.prog w = .ok (.int .i64 x11) w := fun w => by kernel_rfl
  simp only [List.forIn_cons, List.forIn_nil, Sem.run_bind, Result.andThen_ok, Vw, hp0, hp1, hp2, hp3, hp4, hp5, hp6, hp7, hp8, hp9, hp10, hp11, Bool.not_true, Bool.false_eq_true, if_false, Sem.run_pure]
theorem yK {w : World} {g t : Nat} {v0 v1 v2 v3 v4 v5 v6 v7 v8 v9 v10 v11 v12 v13 : Value} (h : w.heap[g]? = some (.cells #[v0, v1, v2, v3, v4, v5, v6, v7, v8, v9, v10, v11, v12, v13] t (0, 0))) :
    w.cell? ⟨g, 0, none⟩ = some v0 ∧ w.cell? ⟨g, 1, none⟩ = some v1 ∧ w.cell? ⟨g, 2, none⟩ = some v2 ∧ w.cell? ⟨g, 3, none⟩ = some v3 ∧ w.cell? ⟨g, 4, none⟩ = some v4 ∧ w.cell? ⟨g, 5, none⟩ = some v5 ∧ w.cell? ⟨g, 6, none⟩ = some v6 ∧ w.cell? ⟨g, 7, none⟩ = some v7 ∧ w.cell? ⟨g, 8, none⟩ = some v8 ∧ w.cell? ⟨g, 9, none⟩ = some v9 ∧ w.cell? ⟨g, 10, none⟩ = some v10 ∧ w.cell? ⟨g, 11, none⟩ = some v11 ∧ w.cell? ⟨g, 12, none⟩ = some v12 ∧ w.cell? ⟨g, 13, none⟩ = some v13 := ⟨za h 0, za h 1, za h 2, za h 3, za h 4, za h 5, za h 6, za h 7, za h 8, za h 9, za h 10, za h 11, za h 12, za h 13⟩
def zW (fn exc : Int) (b w : Value) (at_ v : Int) (o : Value) : Array Value := #[.int .i64 fn, .int .i64 exc, b, w, .int .i64 at_, .int .i64 0, .int .u16 v, .int .u16 0, .int .u16 0, .int .i64 0, .int .i64 0, .bool false, .int .i64 0, o]
def YJ : Array Value := #[.int .i64 0, .int .i64 0, .int .i64 0, .int .i64 0, .int .i64 0, .int .i64 0, .int .i64 0, .int .i64 0, .int .i64 0, .int .i64 0, .int .i64 0, .int .i64 0]
theorem jL (w : World) (fn exc : Int) (A2 : Option Addr) (c2 : Nat) (A3 : Option Addr) (m c3 : Nat) (at_ v : Int) (A13 : Option Addr) (c13 : Nat) (hv : 0 ≤ v ∧ v < 65536) :
    Calls Tryz.prog 185 #[.agg (zW fn exc (.slice A2 0 c2) (.slice A3 m c3) at_ v (.slice A13 0 c13))] w fun e w' => e = .returned (.agg #[.int .i64 at_, .int .i64 0, .int .i64 v, .int .i64 0, .int .i64 0, .int .i64 0, .int .i64 0, .int .i64 0, .int .i64 0, .int .i64 0, .int .i64 (m : Int), .int .i64 0]) ∧ Below w.heap.size w w' := by
  have hu41 := Tryz.underlying41
  have hu274 := Tryz.underlying274
  obtain ⟨W2, hW2⟩ : ∃ W2, W2 = ((w.alloc (.cells (zW fn exc (.slice A2 0 c2) (.slice A3 m c3) at_ v (.slice A13 0 c13)) 41)).alloc (.cells YJ 274)).drew := ⟨_, rfl⟩
  have B2 := hQ (show Below w.heap.size w W2 by rw [hW2]; exact (((Below.refl _ _).alloc (Nat.le_refl _) _).alloc (by simp) _).trans (zl (Below.refl _ _)))
  have X2 := hQ (show W2.heap[w.heap.size]? = some (.cells (zW fn exc (.slice A2 0 c2) (.slice A3 m c3) at_ v (.slice A13 0 c13)) 41 (0, 0)) by rw [hW2]; exact zb (zg (zi w _) _) (zl (Below.refl _ _)))
  have Y2 := hQ (show W2.heap[w.heap.size + 1]? = some (.cells YJ 274 (0, 0)) by
    rw [hW2]
    have h := zi (w.alloc (.cells (zW fn exc (.slice A2 0 c2) (.slice A3 m c3) at_ v (.slice A13 0 c13)) 41)) (.cells YJ 274)
    rw [show (w.alloc (.cells (zW fn exc (.slice A2 0 c2) (.slice A3 m c3) at_ v (.slice A13 0 c13)) 41)).heap.size = w.heap.size + 1 by simp] at h
    exact zb h (zl (Below.refl _ _)))
  rw [hW2] at B2 X2 Y2
  have hw : wrap64 v = v := zu (by omega) (by omega)
  clear hv hW2
  simp only [zW, YJ] at B2 X2 Y2 ⊢
  go_enter Tryz.func185, Tryz.ntmps185
  go_wp2_with (fail)
--WALKN
  refine sq_ (ds := [32]) #[false, false, false, false, false, false, false, false, false, false, false, false, false, false, false, false, false, false, false, false, false, false, false, false, false, false, false, false, false, false, false, false, false] (fun w' => w'.cell? ⟨w.heap.size, 0, none⟩ = some (.int .i64 fn) ∧ w'.cell? ⟨w.heap.size, 1, none⟩ = some (.int .i64 exc) ∧ w'.cell? ⟨w.heap.size, 2, none⟩ = some (.slice A2 0 c2) ∧ w'.cell? ⟨w.heap.size, 3, none⟩ = some (.slice A3 m c3) ∧ w'.cell? ⟨w.heap.size, 4, none⟩ = some (.int .i64 at_) ∧ w'.cell? ⟨w.heap.size, 5, none⟩ = some (.int .i64 0) ∧ w'.cell? ⟨w.heap.size, 6, none⟩ = some (.int .u16 v) ∧ w'.cell? ⟨w.heap.size, 7, none⟩ = some (.int .u16 0) ∧ w'.cell? ⟨w.heap.size, 8, none⟩ = some (.int .u16 0) ∧ w'.cell? ⟨w.heap.size, 9, none⟩ = some (.int .i64 0) ∧ w'.cell? ⟨w.heap.size, 10, none⟩ = some (.int .i64 0) ∧ w'.cell? ⟨w.heap.size, 11, none⟩ = some (.bool false) ∧ w'.cell? ⟨w.heap.size, 12, none⟩ = some (.int .i64 0) ∧ w'.cell? ⟨w.heap.size, 13, none⟩ = some (.slice A13 0 c13)) ⟨za X2.out 0, za X2.out 1, za X2.out 2, za X2.out 3, za X2.out 4, za X2.out 5, za X2.out 6, za X2.out 7, za X2.out 8, za X2.out 9, za X2.out 10, za X2.out 11, za X2.out 12, za X2.out 13⟩ (fun hHeld => ?_)
  refine pq_ 0 (some 3) ?_
  refine pq_ 2 (some 5) ?_
  refine pq_ 4 (some 7) ?_
  refine pq_ 7 (some 10) ?_
  refine pq_ 10 (some 13) ?_
  refine pq_ 13 (some 16) ?_
  refine pq_ 15 (some 18) ?_
  refine pq_ 17 (some 20) ?_
  refine pq_ 20 (some 23) ?_
  refine pq_ 22 (some 25) ?_
  refine pq_ 25 (some 28) ?_
  refine pq_ 28 (some 31) ?_
  refine tq_ 1 (some 4) hHeld ?_
  refine tq_ 3 (some 6) hHeld ?_
  refine tq_ 5 (some 8) hHeld ?_
  refine pq_ 6 (some 9) ?_
  refine tq_ 8 (some 11) hHeld ?_
  refine pq_ 9 (some 12) ?_
  refine tq_ 11 (some 14) hHeld ?_
  refine pq_ 12 (some 15) ?_
  refine tq_ 14 (some 17) hHeld ?_
  refine tq_ 16 (some 19) hHeld ?_
  refine tq_ 18 (some 21) hHeld ?_
  refine tq_ 21 (some 24) hHeld ?_
  refine tq_ 23 (some 26) hHeld ?_
  refine pq_ 24 (some 27) ?_
  refine tq_ 26 (some 29) hHeld ?_
  refine pq_ 27 (some 30) ?_
  refine tq_ 29 (some 32) hHeld ?_
  refine pq_ 30 (some 33) ?_
  refine oq_ 19 (some 22) (fun K hK => ?_)
  refine yh Tryz.func148 (by kernel_rfl) rfl #[.bool false] (by rfl) rfl rfl (by (try simp only [List.map_toArray, List.map_cons, List.map_nil]); first | done | rfl) ?_
  refine (Xm.calls false 0 _ rfl).mono ?_
  rintro e w3 ⟨rfl, hd⟩
  refine ⟨_, rfl, ?_⟩
  have B3 := hQ (zf B2.out B2.out.size hd.below)
  have X3 := hQ (zb X2.out hd.below)
  have Y3 := hQ (zb Y2.out hd.below)
  obtain ⟨y0, y1, y2, y3, y4, y5, y6, y7, y8, y9, y10, y11⟩ := zV Y3.out
  have fy : ∀ i, w3.frozen? ⟨w.heap.size + 1, i, none⟩ = false := fun i => zh Y3.out i
  clear hd
  refine hK.out _ _ ⟨za X3.out 0, za X3.out 1, za X3.out 2, za X3.out 3, za X3.out 4, za X3.out 5, za X3.out 6, za X3.out 7, za X3.out 8, za X3.out 9, za X3.out 10, za X3.out 11, za X3.out 12, za X3.out 13⟩ (fun hHeld => ?_)
  clear hK K
  refine nq_ ?_
  refine pq_ 31 (some 34) ?_
  refine kE (i := 32) (N := none) #[true, true, true, true, true, true, true, true, true, true, true, true, true, true, true, true, true, true, true, true, true, true, true, true, true, true, true, true, true, true, true, true, true] rfl rfl (by kernel_rfl) (by decide) (fun K hK => ?_)
  refine jY (w1 := ?_) (by rfl) rfl ?_ ?_
  rotate_left
  · go_simp
    rfl
  refine hK.out _ _ ?_
  clear hK K
  refine xJ (by kernel_rfl) ?_
  --ENDN
  have hw0 : wrap64 0 = 0 := zu (by omega) (by omega)
  go_wp2
  refine bodyPost_ret (v := .agg #[.int .i64 at_, .int .i64 0, .int .i64 v, .int .i64 0, .int .i64 0, .int .i64 0, .int .i64 0, .int .i64 0, .int .i64 0, .int .i64 0, .int .i64 (m : Int), .int .i64 0]) ?_ rfl ⟨rfl, B3.out.trans ?_⟩
  · simp [results, Tryz.results185, go_sem, hu274, y0, y1, y2, y3, y4, y5, y6, y7, y8, y9, y10, y11, hw0]
  · (repeat (with_reducible first | exact Below.refl _ _ | (refine jG ?_ (by omega))))
theorem yS (w : World) (o o2 : Obj) : ((w.alloc o).alloc o2).heap[w.heap.size + 1]? = some o2 := by
  have h := zi (w.alloc o) o2
  rwa [show (w.alloc o).heap.size = w.heap.size + 1 by simp] at h
theorem kY {d : Kd Int} {W : World} {N g j n : Nat} {A : Option Addr} {xs : List Int} {u : Value} (h : Kd.F d W (fun k => N ≤ k) A n xs) (hg : g < N) : Kd.F d (W.setCell ⟨g, j, none⟩ u) (fun k => N ≤ k) A n xs := Kd.zdQ h (fun k hk e => by have e2 : k = g := e; omega) u
def yu (fn exc : Int) (w : Value) (at_ v : Int) : Value := .agg (zW fn exc (.slice none 0 0) w at_ v (.slice none 0 0))
def yl : Array Value := #[.int .i64 0, .int .i64 0, .slice none 0 0, .slice none 0 0, .int .i64 0, .int .i64 0, .int .u16 0, .int .u16 0, .int .u16 0, .int .i64 0, .int .i64 0, .bool false, .int .i64 0, .slice none 0 0]
def YB (k : Int) : Array Value := #[.int .i64 k, .int .i64 0, .slice none 0 0, .slice none 0 0, .int .i64 0, .int .i64 0, .int .u16 0, .int .u16 0, .int .u16 0, .int .i64 0, .int .i64 0, .bool false, .int .i64 0, .slice none 0 0]
theorem vC (w : World) (a v : Int) (ha : 0 ≤ a ∧ a < 256) (hv : 0 ≤ v ∧ v < 65536) :
    Calls Tryz.prog 179 #[qF a v] w fun e w' => e = .returned (yu 6 0 (.slice none 0 0) a v) ∧ Below w.heap.size w w' := by
  have hu41 := Tryz.underlying41
  have hu37 := Tryz.underlying37
  obtain ⟨W2, hW2⟩ : ∃ W2, W2 = (w.alloc (.cells (xS a v) 37)).alloc (.cells yl 41) := ⟨_, rfl⟩
  have B2 := hQ (show Below w.heap.size w W2 by rw [hW2]; exact ((Below.refl _ _).alloc (Nat.le_refl _) _).alloc (by simp) _)
  have X2 := hQ (show W2.heap[w.heap.size]? = some (.cells (xS a v) 37 (0, 0)) by rw [hW2]; exact zg (zi w _) _)
  have Y2 := hQ (show W2.heap[w.heap.size + 1]? = some (.cells yl 41 (0, 0)) by rw [hW2]; exact yS w _ _)
  rw [hW2] at B2 X2 Y2
  have HA := hQ ha
  have HV := hQ hv
  have hR := fun (w : World) => qX w a v ha hv
  clear ha hv hW2
  simp only [zW, yu, qF, xS, yl] at B2 X2 Y2 hR ⊢
  go_enter Tryz.func179, Tryz.ntmps179
  go_wp2_with (fail)
  refine (hR _).mono ?_
  rintro e w3 ⟨rfl, hb⟩
  have B3 := hQ (zf B2.out B2.out.size hb)
  have X3 := hQ (zb X2.out hb)
  have Y3 := hQ (zb Y2.out hb)
  clear hb
  obtain ⟨x0, x1, x2, x3, x4, x5, x6, x7, x8, x9, x10, x11⟩ := zV X3.out
  obtain ⟨y0, y1, y2, y3, y4, y5, y6, y7, y8, y9, y10, y11, y12, y13⟩ := yK Y3.out
  have fy : ∀ i, w3.frozen? ⟨w.heap.size + 1, i, none⟩ = false := fun i => zh Y3.out i
  go_wp2
  refine bodyPost_ret (v := .agg #[.int .i64 6, .int .i64 0, .slice none 0 0, .slice none 0 0, .int .i64 a, .int .i64 0, .int .u16 v, .int .u16 0, .int .u16 0, .int .i64 0, .int .i64 0, .bool false, .int .i64 0, .slice none 0 0]) ?_ rfl ⟨rfl, ?_⟩
  · simp [results, Tryz.results179, go_sem, hu41, y0, y1, y2, y3, y4, y5, y6, y7, y8, y9, y10, y11, y12, y13]
  · refine B3.out.trans ?_
    (repeat (with_reducible first | exact Below.refl _ _ | (refine jG ?_ (by omega))))
theorem Ja (w : World) (a n : Int) (ha : 0 ≤ a ∧ a < 256) (hn : 1 ≤ n ∧ n ≤ 16) :
    Calls Tryz.prog 179 #[jF a n] w fun e w' => e = .returned (yu 0 0 (.slice none 0 0) 0 0) ∧ Below w.heap.size w w' := by
  have hu41 := Tryz.underlying41
  have hu37 := Tryz.underlying37
  obtain ⟨W2, hW2⟩ : ∃ W2, W2 = (w.alloc (.cells (qV a n) 37)).alloc (.cells yl 41) := ⟨_, rfl⟩
  have B2 := hQ (show Below w.heap.size w W2 by rw [hW2]; exact ((Below.refl _ _).alloc (Nat.le_refl _) _).alloc (by simp) _)
  have X2 := hQ (show W2.heap[w.heap.size]? = some (.cells (qV a n) 37 (0, 0)) by rw [hW2]; exact zg (zi w _) _)
  have Y2 := hQ (show W2.heap[w.heap.size + 1]? = some (.cells yl 41 (0, 0)) by rw [hW2]; exact yS w _ _)
  rw [hW2] at B2 X2 Y2
  have hR := fun (w : World) => kD w a n ha (by omega)
  clear ha hn hW2
  simp only [zW, yu, jF, qV, yl] at B2 X2 Y2 hR ⊢
  go_enter Tryz.func179, Tryz.ntmps179
  go_wp2_with (fail)
  refine (hR _).mono ?_
  rintro e w3 ⟨rfl, hb⟩
  have B3 := hQ (zf B2.out B2.out.size hb)
  have X3 := hQ (zb X2.out hb)
  have Y3 := hQ (zb Y2.out hb)
  clear hb
  obtain ⟨x0, x1, x2, x3, x4, x5, x6, x7, x8, x9, x10, x11⟩ := zV X3.out
  obtain ⟨y0, y1, y2, y3, y4, y5, y6, y7, y8, y9, y10, y11, y12, y13⟩ := yK Y3.out
  have fy : ∀ i, w3.frozen? ⟨w.heap.size + 1, i, none⟩ = false := fun i => zh Y3.out i
  go_wp2
  refine bodyPost_ret (v := .agg #[.int .i64 0, .int .i64 0, .slice none 0 0, .slice none 0 0, .int .i64 0, .int .i64 0, .int .u16 0, .int .u16 0, .int .u16 0, .int .i64 0, .int .i64 0, .bool false, .int .i64 0, .slice none 0 0]) ?_ rfl ⟨rfl, ?_⟩
  · simp [results, Tryz.results179, go_sem, hu41, y0, y1, y2, y3, y4, y5, y6, y7, y8, y9, y10, y11, y12, y13]
  · refine B3.out.trans ?_
    (repeat (with_reducible first | exact Below.refl _ _ | (refine jG ?_ (by omega))))
theorem JY (w : World) (A0 : Option Addr) (c0 : Nat) (l : List Int) (n : Nat) (hn : l.length = n) (hr0 : Kd.C (Kd.int .u16) w A0 n l) (hc0 : n ≤ c0) (hlt : n ≤ 100000) :
    Calls Tryz.prog 175 #[.int .i64 3, .slice A0 n c0] w fun e w' => ∃ A c, e = .returned (yu 3 0 (.slice A n c) 0 0) ∧ Kd.F (Kd.int .u16) w' (fun k => w.heap.size ≤ k) A n l ∧ n ≤ c ∧ Below w.heap.size w w' := by
  subst hn
  have hu41 := Tryz.underlying41
  obtain ⟨W2, hW2⟩ : ∃ W2, W2 = (w.alloc (.cells yl 41)).alloc (.cells (YB 3) 41) := ⟨_, rfl⟩
  have B2 := hQ (show Below w.heap.size w W2 by rw [hW2]; exact ((Below.refl _ _).alloc (Nat.le_refl _) _).alloc (by simp) _)
  have X2 := hQ (show W2.heap[w.heap.size]? = some (.cells yl 41 (0, 0)) by rw [hW2]; exact zg (zi w _) _)
  have Y2 := hQ (show W2.heap[w.heap.size + 1]? = some (.cells (YB 3) 41 (0, 0)) by rw [hW2]; exact yS w _ _)
  have C2 := hQ (Kd.zx hr0 (B2.out))
  rw [hW2] at B2 X2 Y2 C2
  have HC := hQ hc0
  have HL := hQ hlt
  clear hr0 hc0 hlt hW2
  simp only [zW, yu, yl, YB] at B2 X2 Y2 C2 ⊢
  go_enter Tryz.func175, Tryz.ntmps175
  go_wp2_with (fail)
  refine (za3 A0 c0 l _ C2.out HC.out HL.out).mono ?_
  rintro e w3 ⟨A3, c3, rfl, hr, hb⟩
  have B3 := hQ (zf B2.out B2.out.size hb)
  have X3 := hQ (zb X2.out hb)
  have Y3 := hQ (zb Y2.out hb)
  have R3 := hQ (Kd.zB hr)
  have F3 := hQ (Kd.qU (Kd.R_F (Kd.xZ hr)) (ok' := fun k => w.heap.size + 2 ≤ k) (fun k hk => by have := hk.2.1; simp at this; omega))
  clear hb hr
  obtain ⟨x0, x1, x2, x3, x4, x5, x6, x7, x8, x9, x10, x11, x12, x13⟩ := yK X3.out
  obtain ⟨y0, y1, y2, y3, y4, y5, y6, y7, y8, y9, y10, y11, y12, y13⟩ := yK Y3.out
  have fy : ∀ i, w3.frozen? ⟨w.heap.size + 1, i, none⟩ = false := fun i => zh Y3.out i
  have fx : ∀ i, w3.frozen? ⟨w.heap.size, i, none⟩ = false := fun i => zh X3.out i
  go_wp2
  refine bodyPost_ret (v := .agg #[.int .i64 3, .int .i64 0, .slice none 0 0, .slice A3 l.length c3, .int .i64 0, .int .i64 0, .int .u16 0, .int .u16 0, .int .u16 0, .int .i64 0, .int .i64 0, .bool false, .int .i64 0, .slice none 0 0]) ?_ rfl ⟨A3, c3, rfl, ?_, R3.out.2.1, ?_⟩
  · simp [results, Tryz.results175, go_sem, hu41, x0, x1, x2, x3, x4, x5, x6, x7, x8, x9, x10, x11, x12, x13]
  · refine Kd.qU (ok := fun k => w.heap.size + 2 ≤ k) ?_ (fun k hk => by omega)
    repeat (with_reducible first | exact F3.out | (refine kY ?_ (by omega)))
  · refine B3.out.trans ?_
    (repeat (with_reducible first | exact Below.refl _ _ | (refine jG ?_ (by omega))))
end Go.Proofs.YtlalbohhopmpdaaGreat.Top
namespace Go.Proofs.YtlalbohhopmpdaaGreat.PTop
open Go.RowKit Go.YW.PrintWords Go.YW.PrintLast Go.YW.PrintMore
attribute [local go_sem] yN yO xu xw yP yR xm xq zk zo   -- for this text's walks alone
def jD.f (a0 : Int) (a1 : Int) : Option (Bool) := if a0 ≥ 1 then (some (decide (a0 ≤ a1))) else (some false)
theorem jD.calls (a0 : Int) (a1 : Int) (r : Bool) (w : World) (h : jD.f a0 a1 = some r) :
  Calls Tryz.prog 187 #[.int .i64 a0, .int .i64 a1] w fun e w' => e = .returned (.bool r) ∧ zw w w' := by
 have H : (if a0 ≥ 1 then (some (decide (a0 ≤ a1))) else (some false)) = some r := h
 clear h
 by_cases c3 : a0 ≥ 1
 ·
  rw [if_pos c3] at H
  have c3b0 : decide (1 ≤ a0) = true := dT c3
  clear c3
  obtain rfl := Option.some.inj H
  go_enter Tryz.func187, Tryz.ntmps187
  go_wp2
  go_ret
  exact ⟨by first | rfl | (simp; done) | (simp [*]; done), by repeat (first | exact zw.refl _ | apply zw.step)⟩
 ·
  rw [if_neg c3] at H
  have c3b0 : decide (1 ≤ a0) = false := dF c3
  clear c3
  obtain rfl := Option.some.inj H
  go_enter Tryz.func187, Tryz.ntmps187
  go_wp2
  go_ret
  exact ⟨by first | rfl | (simp; done) | (simp [*]; done), by repeat (first | exact zw.refl _ | apply zw.step)⟩
end Go.Proofs.YtlalbohhopmpdaaGreat.PTop
namespace Go.Proofs.YtlalbohhopmpdaaGreat.Top
open Go.RowKit Go.Proofs.YtlalbohhopmpdaaGreat.PTop Go.YW.PrintWords Go.YW.PrintLast Go.YW.PrintMore Go.Proofs.YtlalbohhopmpdaaGreat.Num
attribute [local go_sem] yN yO xu xw yP yR xm xq zk zo
theorem ZA (W : World) (o : Obj) (g : Nat) (h : g = W.heap.size) : (W.alloc o).heap[g]? = some o := by subst h; exact zi W o
theorem QI {k : IntKind} {w : World} {g t : Nat} {fr : Nat × Nat} (l : List Int) (h : w.heap[g]? = some (.cells (l.map (Value.int k)).toArray t fr)) (f n : Nat) (hf : f + n ≤ l.length) (hl : l.length ≤ 100000) :
    Kd.C (Kd.int k) w (some ⟨g, f, none⟩) n ((l.drop f).take n) := by
  refine ⟨by simp; omega, by omega, fun _ => ⟨_, rfl, fun j p hp => ?_⟩⟩
  have hj : j < n := by
    have := (List.getElem?_eq_some_iff.1 hp).1
    simp at this
    omega
  rw [List.getElem?_take_of_lt hj, List.getElem?_drop] at hp
  refine ⟨[.int k p], rfl, rfl, fun i u hu => ?_⟩
  have hi : i = 0 := by
    have := (List.getElem?_eq_some_iff.1 hu).1
    simp at this
    omega
  subst hi
  simp only [List.getElem?_cons_zero, Option.some.injEq] at hu
  subst hu
  rw [show (Kd.int k).sz = 1 from rfl, Nat.mul_one, Nat.add_zero, show (⟨g, f, none⟩ : Addr).add j = ⟨g, f + j, none⟩ by unfold Addr.add; split <;> simp_all, cell_of_row w g (f + j) _ t fr h]
  simp [hp]
end Go.Proofs.YtlalbohhopmpdaaGreat.Top
namespace Go.Proofs.YtlalbohhopmpdaaGreat.Top
open Go.RowKit Go.Proofs.YtlalbohhopmpdaaGreat.PTop Go.YW.PrintWords Go.YW.PrintLast Go.YW.PrintMore Go.Proofs.YtlalbohhopmpdaaGreat.Num
attribute [local go_sem] zk zo
theorem XN (w : World) (cb : Nat) (wh : Int) :
    Calls Tryz.prog 138 #[.int .i64 wh, .pointer (some ⟨cb, 0, none⟩)] w fun e w' => e = .returned (.func (.func 139) #[] #[.pointer (some ⟨cb, 0, none⟩), .pointer (some ⟨w.heap.size, 0, none⟩)]) ∧ w' = w.alloc (.cells #[.int .i64 wh] 3) := by
  have hmf : ∀ (fn : Fn) (first cap : Array Value) (w : World), (Instr.makeFunc fn first cap).run Tryz.prog w = .ok (.func fn first cap) w := fun _ _ _ _ => rfl
  go_enter Tryz.func138, Tryz.ntmps138
  go_wp2
  go_ret
  exact ⟨rfl, rfl⟩
theorem kF {w : World} {B0 c : Nat} {A : Option Addr} {t a b : Int} (h : Kd.R k78 78 w B0 (fun _ => True) (.slice A 1 c) [⟨t, a, b⟩]) : ∃ g, A = some ⟨g, 0, none⟩ ∧ w.cell? ⟨g, 0, none⟩ = some (.int .i64 t) ∧ w.cell? ⟨g, 1, none⟩ = some (.int .i64 a) ∧ w.cell? ⟨g, 2, none⟩ = some (.int .i64 b) := by
  obtain ⟨g0, cap0, e0, _, _, _⟩ := Kd.qm h (by simp)
  obtain ⟨rfl, rfl⟩ : A = some ⟨g0, 0, none⟩ ∧ c = cap0 := by injection e0 with h1 h2 h3; exact ⟨h1, h3⟩
  obtain ⟨ad, ea, h50, h51, h52⟩ := Yg (Kd.zB h).2.2 0 (by decide) (by simp)
  cases ea
  exact ⟨g0, rfl, h50, h51, h52⟩
def qO (w : World) (m g : Value) : Prop := (∃ Am cm, m = .slice Am 5 cm ∧ Kd.R k78 78 w 0 (fun _ => True) m yA) ∧ ∃ Ag cg, g = .slice Ag 3 cg ∧ Kd.R k81 81 w 0 (fun _ => True) g zY
theorem qO.below {w w1 : World} {m g : Value} (h : qO w m g) (hb : Below w.heap.size w w1) : qO w1 m g := by
  obtain ⟨⟨Am, cm, h1, h2⟩, Ag, cg, h3, h4⟩ := h
  exact ⟨⟨Am, cm, h1, Kd.zz h2 hb⟩, Ag, cg, h3, Kd.zz h4 hb⟩
theorem qO.ch {B : Nat} {x : Ix} {w w1 : World} {m g : Value} (h : qO w m g) (hc : Ch TS (MS x) B w w1) : qO w1 m g := by
  obtain ⟨⟨Am, cm, h1, h2⟩, Ag, cg, h3, h4⟩ := h
  exact ⟨⟨Am, cm, h1, hc.R h2 (by decide)⟩, Ag, cg, h3, hc.R h4 (by decide)⟩
theorem qO.at {w : World} {cb : Nat} {m g o : Value} (h : qO w m g) (hb : w.heap[cb]? = some (.cells (xR m g o) 30 (0, 0))) : Qv w cb := by
  obtain ⟨⟨Am, cm, rfl, h2⟩, Ag, cg, rfl, h4⟩ := h
  exact ⟨Am, cm, Ag, cg, o, hb, (Kd.zB h2).2.1, (Kd.zB h4).2.1, (Kd.zB h2).2.2, (Kd.zB h4).2.2⟩
theorem JP (w : World) (A2 : Option Addr) (c2 : Nat) (A3 : Option Addr) (m c3 : Nat) (A13 : Option Addr) (c13 : Nat) :
    Calls Tryz.prog 186 #[.agg (zW 3 0 (.slice A2 0 c2) (.slice A3 m c3) 0 0 (.slice A13 0 c13))] w fun e w' => e = .returned (.agg (zW 3 0 (.slice none 0 0) (.slice A3 m c3) 0 0 (.slice none 0 0))) ∧ Below w.heap.size w w' := by
  have hu41 := Tryz.underlying41
  simp only [zW]
  go_enter Tryz.func186, Tryz.ntmps186
  go_wp2
  refine bodyPost_ret (v := .agg #[.int .i64 3, .int .i64 0, .slice none 0 0, .slice A3 m c3, .int .i64 0, .int .i64 0, .int .u16 0, .int .u16 0, .int .u16 0, .int .i64 0, .int .i64 0, .bool false, .int .i64 0, .slice none 0 0]) ?_ rfl ⟨rfl, ?_⟩
  · simp [results, Tryz.results186, go_sem, hu41]
  · (repeat (with_reducible first | exact Below.refl _ _ | (refine jG ?_ (by omega))))
    exact (((Below.refl _ _).alloc (Nat.le_refl _) _).alloc (by simp) _).alloc (by simp; omega) _
theorem JU (w : World) (a v : Int) (A2 : Option Addr) (c2 : Nat) (A3 : Option Addr) (m c3 : Nat) (A13 : Option Addr) (c13 : Nat) :
    Calls Tryz.prog 186 #[.agg (zW 6 0 (.slice A2 0 c2) (.slice A3 m c3) a v (.slice A13 0 c13))] w fun e w' => e = .returned (.agg (zW 6 0 (.slice none 0 0) (.slice none 0 0) a v (.slice none 0 0))) ∧ Below w.heap.size w w' := by
  have hu41 := Tryz.underlying41
  simp only [zW]
  go_enter Tryz.func186, Tryz.ntmps186
  go_wp2
  go_region
  go_wp2
  refine bodyPost_ret (v := .agg #[.int .i64 6, .int .i64 0, .slice none 0 0, .slice none 0 0, .int .i64 a, .int .i64 0, .int .u16 v, .int .u16 0, .int .u16 0, .int .i64 0, .int .i64 0, .bool false, .int .i64 0, .slice none 0 0]) ?_ rfl ⟨rfl, ?_⟩
  · simp [results, Tryz.results186, go_sem, hu41]
  · (repeat (with_reducible first | exact Below.refl _ _ | (refine jG ?_ (by omega))))
    exact ((((Below.refl _ _).alloc (Nat.le_refl _) _).alloc (by simp) _).alloc (by simp; omega) _).trans (zl (Below.refl _ _))
open Go.Proofs.YtlalbohhopmpdaaGreat.Tiny
theorem KV (n : Int) (h : 1 ≤ n ∧ n ≤ 125) : jD.f n 125 = some true := by
  unfold jD.f
  rw [if_pos h.1, dT h.2]
theorem QA (w : World) (l : List Int) (hl : 1 ≤ l.length ∧ l.length ≤ 125) (A2 : Option Addr) (c2 : Nat) (A3 : Option Addr) (c3 : Nat) (A13 : Option Addr) (c13 : Nat) :
    Calls Tryz.prog 145 #[.agg (zW 3 0 (.slice A2 0 c2) (.slice A3 l.length c3) 0 0 (.slice A13 0 c13))] w fun e w' => e = .returned (.bool true) ∧ Below w.heap.size w w' := by
  have hu41 := Tryz.underlying41
  have hu274 := Tryz.underlying274
  have heq : ∀ W : World, (Op.equalIn 10000 274 (.agg #[.int .i64 0, .int .i64 0, .int .i64 0, .int .i64 0, .int .i64 0, .int .i64 0, .int .i64 0, .int .i64 0, .int .i64 0, .int .i64 0, .int .i64 (l.length : Int), .int .i64 0]) (.agg #[.int .i64 0, .int .i64 0, .int .i64 0, .int .i64 0, .int .i64 0, .int .i64 0, .int .i64 0, .int .i64 0, .int .i64 0, .int .i64 0, .int .i64 (l.length : Int), .int .i64 0])).run Tryz.prog W = .ok true W := fun W => zcz 0 0 0 0 0 0 0 0 0 0 (l.length : Int) 0 W
  have HL := hQ hl
  clear hl
  obtain ⟨W2, hW2⟩ : ∃ W2, W2 = (w.alloc (.cells (zW 3 0 (.slice A2 0 c2) (.slice A3 l.length c3) 0 0 (.slice A13 0 c13)) 41)).drew := ⟨_, rfl⟩
  have hb2 : Below w.heap.size w W2 := by rw [hW2]; exact ((Below.refl _ _).alloc (Nat.le_refl _) _).trans (zl (Below.refl _ _))
  have B2 := hQ hb2
  have X2 := hQ (show W2.heap[w.heap.size]? = some (.cells (zW 3 0 (.slice A2 0 c2) (.slice A3 l.length c3) 0 0 (.slice A13 0 c13)) 41 (0, 0)) by rw [hW2]; exact zb (zi w _) (zl (Below.refl _ _)))
  rw [hW2] at B2 X2
  clear hb2 hW2
  simp only [zW] at B2 X2 ⊢
  go_enter Tryz.func145, Tryz.ntmps145
  go_wp2_with (fail)
--WALKR
  refine sq_ (ds := []) #[false, false, false, false, false, false, false, false, false, false, false, false, false, false, false, false, false, false, false, false, false, false] (fun w' => w'.cell? ⟨w.heap.size, 0, none⟩ = some (.int .i64 3) ∧ w'.cell? ⟨w.heap.size, 1, none⟩ = some (.int .i64 0) ∧ w'.cell? ⟨w.heap.size, 2, none⟩ = some (.slice A2 0 c2) ∧ w'.cell? ⟨w.heap.size, 3, none⟩ = some (.slice A3 l.length c3) ∧ w'.cell? ⟨w.heap.size, 4, none⟩ = some (.int .i64 0) ∧ w'.cell? ⟨w.heap.size, 5, none⟩ = some (.int .i64 0) ∧ w'.cell? ⟨w.heap.size, 6, none⟩ = some (.int .u16 0) ∧ w'.cell? ⟨w.heap.size, 7, none⟩ = some (.int .u16 0) ∧ w'.cell? ⟨w.heap.size, 8, none⟩ = some (.int .u16 0) ∧ w'.cell? ⟨w.heap.size, 9, none⟩ = some (.int .i64 0) ∧ w'.cell? ⟨w.heap.size, 10, none⟩ = some (.int .i64 0) ∧ w'.cell? ⟨w.heap.size, 11, none⟩ = some (.bool false) ∧ w'.cell? ⟨w.heap.size, 12, none⟩ = some (.int .i64 0) ∧ w'.cell? ⟨w.heap.size, 13, none⟩ = some (.slice A13 0 c13)) ⟨za X2.out 0, za X2.out 1, za X2.out 2, za X2.out 3, za X2.out 4, za X2.out 5, za X2.out 6, za X2.out 7, za X2.out 8, za X2.out 9, za X2.out 10, za X2.out 11, za X2.out 12, za X2.out 13⟩ (fun hHeld => ?_)
  refine pq_ 0 (some 23) ?_
  refine tq_ 1 (some 24) hHeld ?_
  refine oq_ 2 (some 25) (fun K hK => ?_)
  refine yh Tryz.func132 (by kernel_rfl) rfl #[.int .i64 3] (by rfl) rfl rfl (by (try simp only [List.map_toArray, List.map_cons, List.map_nil]); first | done | rfl) ?_
  refine (Qa _).mono ?_
  rintro e w3 ⟨rfl, hd⟩
  refine ⟨_, rfl, ?_⟩
  have B3 := hQ (zf B2.out B2.out.size hd.below)
  have X3 := hQ (zb X2.out hd.below)
  clear hd
  refine hK.out _ _ ⟨za X3.out 0, za X3.out 1, za X3.out 2, za X3.out 3, za X3.out 4, za X3.out 5, za X3.out 6, za X3.out 7, za X3.out 8, za X3.out 9, za X3.out 10, za X3.out 11, za X3.out 12, za X3.out 13⟩ (fun hHeld => ?_)
  clear hK K
  refine nq_ ?_
  refine pq_ 3 (some 26) ?_
  refine pq_ 4 (some 27) ?_
  refine tq_ 5 (some 28) hHeld ?_
  refine tq_ 7 (some 30) hHeld ?_
  refine oq_ 6 (some 29) (fun K hK => ?_)
  refine yh Tryz.func185 (by kernel_rfl) rfl #[.agg #[.int .i64 3, .int .i64 0, .slice A2 0 c2, .slice A3 l.length c3, .int .i64 0, .int .i64 0, .int .u16 0, .int .u16 0, .int .u16 0, .int .i64 0, .int .i64 0, .bool false, .int .i64 0, .slice A13 0 c13]] (by rfl) rfl rfl (by (try simp only [List.map_toArray, List.map_cons, List.map_nil]); first | done | rfl) ?_
  refine (jL _ 3 0 A2 c2 A3 l.length c3 0 0 A13 c13 (by omega)).mono ?_
  rintro e w4 ⟨rfl, hb⟩
  refine ⟨_, rfl, ?_⟩
  have B4 := hQ (zf B3.out B3.out.size hb)
  have X4 := hQ (zb X3.out hb)
  clear hb
  refine hK.out _ _ ⟨za X4.out 0, za X4.out 1, za X4.out 2, za X4.out 3, za X4.out 4, za X4.out 5, za X4.out 6, za X4.out 7, za X4.out 8, za X4.out 9, za X4.out 10, za X4.out 11, za X4.out 12, za X4.out 13⟩ (fun hHeld => ?_)
  clear hK K
  refine nq_ ?_
  refine oq_ 8 (some 31) (fun K hK => ?_)
  refine yh Tryz.func186 (by kernel_rfl) rfl #[.agg #[.int .i64 3, .int .i64 0, .slice A2 0 c2, .slice A3 l.length c3, .int .i64 0, .int .i64 0, .int .u16 0, .int .u16 0, .int .u16 0, .int .i64 0, .int .i64 0, .bool false, .int .i64 0, .slice A13 0 c13]] (by rfl) rfl rfl (by (try simp only [List.map_toArray, List.map_cons, List.map_nil]); first | done | rfl) ?_
  refine (JP _ A2 c2 A3 l.length c3 A13 c13).mono ?_
  rintro e w5 ⟨rfl, hb⟩
  refine ⟨_, rfl, ?_⟩
  have B5 := hQ (zf B4.out B4.out.size hb)
  have X5 := hQ (zb X4.out hb)
  clear hb
  refine hK.out _ _ ⟨za X5.out 0, za X5.out 1, za X5.out 2, za X5.out 3, za X5.out 4, za X5.out 5, za X5.out 6, za X5.out 7, za X5.out 8, za X5.out 9, za X5.out 10, za X5.out 11, za X5.out 12, za X5.out 13⟩ (fun hHeld => ?_)
  clear hK K
  refine nq_ ?_
  refine oq_ 9 (some 32) (fun K hK => ?_)
  refine yh Tryz.func185 (by kernel_rfl) rfl #[.agg #[.int .i64 3, .int .i64 0, .slice none 0 0, .slice A3 l.length c3, .int .i64 0, .int .i64 0, .int .u16 0, .int .u16 0, .int .u16 0, .int .i64 0, .int .i64 0, .bool false, .int .i64 0, .slice none 0 0]] (by rfl) rfl rfl (by (try simp only [List.map_toArray, List.map_cons, List.map_nil]); first | done | rfl) ?_
  refine (jL _ 3 0 none 0 A3 l.length c3 0 0 none 0 (by omega)).mono ?_
  rintro e w6 ⟨rfl, hb⟩
  refine ⟨_, rfl, ?_⟩
  have B6 := hQ (zf B5.out B5.out.size hb)
  have X6 := hQ (zb X5.out hb)
  clear hb
  refine hK.out _ _ ⟨za X6.out 0, za X6.out 1, za X6.out 2, za X6.out 3, za X6.out 4, za X6.out 5, za X6.out 6, za X6.out 7, za X6.out 8, za X6.out 9, za X6.out 10, za X6.out 11, za X6.out 12, za X6.out 13⟩ (fun hHeld => ?_)
  clear hK K
  refine nq_ ?_
  refine pq_ 10 (some 33) ?_
  refine pq_ 11 (some 34) ?_
  refine pq_ 12 (some 35) ?_
  refine pq_ 13 (some 36) ?_
  refine tq_ 14 (some 37) hHeld ?_
  refine pq_ 15 (some 38) ?_
  refine pq_ 16 (some 39) ?_
  refine pq_ 17 (some 40) ?_
  refine pq_ 18 (some 41) ?_
  refine tq_ 19 (some 42) hHeld ?_
  refine pq_ 20 (some 43) ?_
  refine pq_ 21 (some 44) ?_
  refine xJ (by kernel_rfl) ?_
  --ENDR
  go_wp2_with (fail)
  refine (zaR _).mono ?_
  rintro e w9 ⟨rfl, hd⟩
  have B9 := hQ (zf B6.out B6.out.size hd.below)
  have X9 := hQ (zb X6.out hd.below)
  clear hd
  obtain ⟨x0, x1, x2, x3, x4, x5, x6, x7, x8, x9, x10, x11, x12, x13⟩ := yK X9.out
  go_wp2_with (fail)
  refine (jD.calls (l.length : Int) 125 true _ (KV _ ⟨by have := HL.out; omega, by have := HL.out; omega⟩)).mono ?_
  rintro e w10 ⟨rfl, hd⟩
  have B10 := hQ (zf B9.out B9.out.size hd.below)
  clear hd
  go_wp2
  exact bodyPost_ret (v := .bool true) (by simp [results, Tryz.results145, go_sem]) rfl ⟨rfl, B10.out⟩
theorem QC (w : World) (a v : Int) (ha : 0 ≤ a ∧ a < 256) (hv : 0 ≤ v ∧ v < 65536) (A2 : Option Addr) (c2 : Nat) (A3 : Option Addr) (c3 : Nat) (A13 : Option Addr) (c13 : Nat) :
    Calls Tryz.prog 145 #[.agg (zW 6 0 (.slice A2 0 c2) (.slice A3 0 c3) a v (.slice A13 0 c13))] w fun e w' => e = .returned (.bool true) ∧ Below w.heap.size w w' := by
  have hu41 := Tryz.underlying41
  have hu274 := Tryz.underlying274
  have heq : ∀ W : World, (Op.equalIn 10000 274 (.agg #[.int .i64 a, .int .i64 0, .int .i64 v, .int .i64 0, .int .i64 0, .int .i64 0, .int .i64 0, .int .i64 0, .int .i64 0, .int .i64 0, .int .i64 0, .int .i64 0]) (.agg #[.int .i64 a, .int .i64 0, .int .i64 v, .int .i64 0, .int .i64 0, .int .i64 0, .int .i64 0, .int .i64 0, .int .i64 0, .int .i64 0, .int .i64 0, .int .i64 0])).run Tryz.prog W = .ok true W := fun W => zcz a 0 v 0 0 0 0 0 0 0 0 0 W
  have HA := hQ ha
  have HV := hQ hv
  have ha1 : decide (a < 0) = false := decide_eq_false (by omega)
  have ha2 : decide (a ≥ 65536) = false := decide_eq_false (by omega)
  clear ha hv
  obtain ⟨W2, hW2⟩ : ∃ W2, W2 = (w.alloc (.cells (zW 6 0 (.slice A2 0 c2) (.slice A3 0 c3) a v (.slice A13 0 c13)) 41)).drew := ⟨_, rfl⟩
  have hb2 : Below w.heap.size w W2 := by rw [hW2]; exact ((Below.refl _ _).alloc (Nat.le_refl _) _).trans (zl (Below.refl _ _))
  have B2 := hQ hb2
  have X2 := hQ (show W2.heap[w.heap.size]? = some (.cells (zW 6 0 (.slice A2 0 c2) (.slice A3 0 c3) a v (.slice A13 0 c13)) 41 (0, 0)) by rw [hW2]; exact zb (zi w _) (zl (Below.refl _ _)))
  rw [hW2] at B2 X2
  clear hb2 hW2
  simp only [zW] at B2 X2 ⊢
  go_enter Tryz.func145, Tryz.ntmps145
  go_wp2_with (fail)
--WALKW
  refine sq_ (ds := []) #[false, false, false, false, false, false, false, false, false, false, false, false, false, false, false, false, false, false, false, false, false, false] (fun w' => w'.cell? ⟨w.heap.size, 0, none⟩ = some (.int .i64 6) ∧ w'.cell? ⟨w.heap.size, 1, none⟩ = some (.int .i64 0) ∧ w'.cell? ⟨w.heap.size, 2, none⟩ = some (.slice A2 0 c2) ∧ w'.cell? ⟨w.heap.size, 3, none⟩ = some (.slice A3 0 c3) ∧ w'.cell? ⟨w.heap.size, 4, none⟩ = some (.int .i64 a) ∧ w'.cell? ⟨w.heap.size, 5, none⟩ = some (.int .i64 0) ∧ w'.cell? ⟨w.heap.size, 6, none⟩ = some (.int .u16 v) ∧ w'.cell? ⟨w.heap.size, 7, none⟩ = some (.int .u16 0) ∧ w'.cell? ⟨w.heap.size, 8, none⟩ = some (.int .u16 0) ∧ w'.cell? ⟨w.heap.size, 9, none⟩ = some (.int .i64 0) ∧ w'.cell? ⟨w.heap.size, 10, none⟩ = some (.int .i64 0) ∧ w'.cell? ⟨w.heap.size, 11, none⟩ = some (.bool false) ∧ w'.cell? ⟨w.heap.size, 12, none⟩ = some (.int .i64 0) ∧ w'.cell? ⟨w.heap.size, 13, none⟩ = some (.slice A13 0 c13)) ⟨za X2.out 0, za X2.out 1, za X2.out 2, za X2.out 3, za X2.out 4, za X2.out 5, za X2.out 6, za X2.out 7, za X2.out 8, za X2.out 9, za X2.out 10, za X2.out 11, za X2.out 12, za X2.out 13⟩ (fun hHeld => ?_)
  refine pq_ 0 (some 23) ?_
  refine tq_ 1 (some 24) hHeld ?_
  refine oq_ 2 (some 25) (fun K hK => ?_)
  refine yh Tryz.func132 (by kernel_rfl) rfl #[.int .i64 6] (by rfl) rfl rfl (by (try simp only [List.map_toArray, List.map_cons, List.map_nil]); first | done | rfl) ?_
  refine (QP _).mono ?_
  rintro e w3 ⟨rfl, hd⟩
  refine ⟨_, rfl, ?_⟩
  have B3 := hQ (zf B2.out B2.out.size hd.below)
  have X3 := hQ (zb X2.out hd.below)
  clear hd
  refine hK.out _ _ ⟨za X3.out 0, za X3.out 1, za X3.out 2, za X3.out 3, za X3.out 4, za X3.out 5, za X3.out 6, za X3.out 7, za X3.out 8, za X3.out 9, za X3.out 10, za X3.out 11, za X3.out 12, za X3.out 13⟩ (fun hHeld => ?_)
  clear hK K
  refine nq_ ?_
  refine pq_ 3 (some 26) ?_
  refine pq_ 4 (some 27) ?_
  refine tq_ 5 (some 28) hHeld ?_
  refine tq_ 7 (some 30) hHeld ?_
  refine oq_ 6 (some 29) (fun K hK => ?_)
  refine yh Tryz.func185 (by kernel_rfl) rfl #[.agg #[.int .i64 6, .int .i64 0, .slice A2 0 c2, .slice A3 0 c3, .int .i64 a, .int .i64 0, .int .u16 v, .int .u16 0, .int .u16 0, .int .i64 0, .int .i64 0, .bool false, .int .i64 0, .slice A13 0 c13]] (by rfl) rfl rfl (by (try simp only [List.map_toArray, List.map_cons, List.map_nil]); first | done | rfl) ?_
  refine (jL _ 6 0 A2 c2 A3 0 c3 a v A13 c13 HV.out).mono ?_
  rintro e w4 ⟨rfl, hb⟩
  refine ⟨_, rfl, ?_⟩
  have B4 := hQ (zf B3.out B3.out.size hb)
  have X4 := hQ (zb X3.out hb)
  clear hb
  refine hK.out _ _ ⟨za X4.out 0, za X4.out 1, za X4.out 2, za X4.out 3, za X4.out 4, za X4.out 5, za X4.out 6, za X4.out 7, za X4.out 8, za X4.out 9, za X4.out 10, za X4.out 11, za X4.out 12, za X4.out 13⟩ (fun hHeld => ?_)
  clear hK K
  refine nq_ ?_
  refine oq_ 8 (some 31) (fun K hK => ?_)
  refine yh Tryz.func186 (by kernel_rfl) rfl #[.agg #[.int .i64 6, .int .i64 0, .slice A2 0 c2, .slice A3 0 c3, .int .i64 a, .int .i64 0, .int .u16 v, .int .u16 0, .int .u16 0, .int .i64 0, .int .i64 0, .bool false, .int .i64 0, .slice A13 0 c13]] (by rfl) rfl rfl (by (try simp only [List.map_toArray, List.map_cons, List.map_nil]); first | done | rfl) ?_
  refine (JU _ a v A2 c2 A3 0 c3 A13 c13).mono ?_
  rintro e w5 ⟨rfl, hb⟩
  refine ⟨_, rfl, ?_⟩
  have B5 := hQ (zf B4.out B4.out.size hb)
  have X5 := hQ (zb X4.out hb)
  clear hb
  refine hK.out _ _ ⟨za X5.out 0, za X5.out 1, za X5.out 2, za X5.out 3, za X5.out 4, za X5.out 5, za X5.out 6, za X5.out 7, za X5.out 8, za X5.out 9, za X5.out 10, za X5.out 11, za X5.out 12, za X5.out 13⟩ (fun hHeld => ?_)
  clear hK K
  refine nq_ ?_
  refine oq_ 9 (some 32) (fun K hK => ?_)
  refine yh Tryz.func185 (by kernel_rfl) rfl #[.agg #[.int .i64 6, .int .i64 0, .slice none 0 0, .slice none 0 0, .int .i64 a, .int .i64 0, .int .u16 v, .int .u16 0, .int .u16 0, .int .i64 0, .int .i64 0, .bool false, .int .i64 0, .slice none 0 0]] (by rfl) rfl rfl (by (try simp only [List.map_toArray, List.map_cons, List.map_nil]); first | done | rfl) ?_
  refine (jL _ 6 0 none 0 none 0 0 a v none 0 HV.out).mono ?_
  rintro e w6 ⟨rfl, hb⟩
  refine ⟨_, rfl, ?_⟩
  have B6 := hQ (zf B5.out B5.out.size hb)
  have X6 := hQ (zb X5.out hb)
  clear hb
  refine hK.out _ _ ⟨za X6.out 0, za X6.out 1, za X6.out 2, za X6.out 3, za X6.out 4, za X6.out 5, za X6.out 6, za X6.out 7, za X6.out 8, za X6.out 9, za X6.out 10, za X6.out 11, za X6.out 12, za X6.out 13⟩ (fun hHeld => ?_)
  clear hK K
  refine nq_ ?_
  refine pq_ 10 (some 33) ?_
  refine pq_ 11 (some 34) ?_
  refine pq_ 12 (some 35) ?_
  refine pq_ 13 (some 36) ?_
  refine tq_ 14 (some 37) hHeld ?_
  refine pq_ 15 (some 38) ?_
  refine pq_ 16 (some 39) ?_
  refine pq_ 17 (some 40) ?_
  refine pq_ 18 (some 41) ?_
  refine tq_ 19 (some 42) hHeld ?_
  refine pq_ 20 (some 43) ?_
  refine pq_ 21 (some 44) ?_
  refine xJ (by kernel_rfl) ?_
  --ENDW
  go_wp2_with (fail)
  refine (zbm _).mono ?_
  rintro e w9 ⟨rfl, hd⟩
  have B9 := hQ (zf B6.out B6.out.size hd.below)
  have X9 := hQ (zb X6.out hd.below)
  clear hd
  obtain ⟨x0, x1, x2, x3, x4, x5, x6, x7, x8, x9, x10, x11, x12, x13⟩ := yK X9.out
  go_wp2
  exact bodyPost_ret (v := .bool true) (by simp [results, Tryz.results145, go_sem]) rfl ⟨rfl, B9.out⟩
end Go.Proofs.YtlalbohhopmpdaaGreat.Top
