/- Words and walks for TopBlind (made of the session's own texts; each part by itself). -/
import Derived.Deep.DeepCutAuto
import Derived.Deep.DeepMust
import Derived.Deep.RegionLaw
import Derived.Laws.CopyOwn
import Derived.Test.YtlalbohhopmpdaaGreatZTopBlind26
set_option maxRecDepth 100000
set_option maxHeartbeats 8000000
set_option linter.unusedVariables false
set_option linter.unusedSimpArgs false
namespace Go.Proofs.YtlalbohhopmpdaaGreat.Top
open Go.Proofs.YtlalbohhopmpdaaGreat.Tiny
open Go.RowKit Go.Proofs.YtlalbohhopmpdaaGreat.PTop Go.YW.PrintWords Go.YW.PrintLast Go.YW.PrintMore Go.Proofs.YtlalbohhopmpdaaGreat.Num
attribute [local go_sem] zk zo
theorem zbq (m g o : Value) (dk ss : Nat) (L : Nat → Nat → Nat) : GCs (((((((((((((((Tryz.zeroCells98.setIfInBounds 0 (m)).setIfInBounds 1 (g)).setIfInBounds 2 (.int .i64 100)).setIfInBounds 3 (.int .i64 1000)).setIfInBounds 4 (.int .i64 8)).setIfInBounds 5 (.int .i64 8)).setIfInBounds 6 (.int .i64 100000)).setIfInBounds 7 (.int .i64 500)).setIfInBounds 8 (.int .i64 2000)).setIfInBounds 9 (.int .i64 1024)).setIfInBounds 10 (.int .i64 1024)).setIfInBounds 11 (.int .u64 0)).setIfInBounds 12 (o)).setIfInBounds 13 (.pointer (some ⟨dk, 0, none⟩))).setIfInBounds 14 (.pointer (some ⟨ss, 0, none⟩))) m g o dk ss 0 L := by
  refine ⟨by kernel_rfl, fun i hi => ?_, by kernel_rfl, by kernel_rfl, fun c hc => absurd hc (Nat.not_lt_zero _)⟩
  obtain rfl | rfl | rfl | rfl | rfl | rfl | rfl | rfl | rfl | rfl | rfl | rfl | rfl : i = 0 ∨ i = 1 ∨ i = 2 ∨ i = 3 ∨ i = 4 ∨ i = 5 ∨ i = 6 ∨ i = 7 ∨ i = 8 ∨ i = 9 ∨ i = 10 ∨ i = 11 ∨ i = 12 := by omega
  all_goals kernel_rfl
theorem WT (A0 : Option Addr) (c0 : Nat) (w : World) (hr0 : Kd.C k78 w A0 5 yA) (hc0 : 5 ≤ c0) : Calls Tryz.prog 23 #[.slice A0 5 c0] w fun e w' => ∃ A c, e = .returned (.slice A 5 c) ∧ Kd.R (k78) 78 w' w.heap.size (fun _ => True) (.slice A 5 c) yA ∧ Below w.heap.size w w' := Jg A0 c0 yA w hr0 hc0 (by decide)
theorem Qs (A0 : Option Addr) (c0 : Nat) (w : World) (hr0 : Kd.C k81 w A0 3 zY) (hc0 : 3 ≤ c0) : Calls Tryz.prog 24 #[.slice A0 3 c0] w fun e w' => ∃ A c, e = .returned (.slice A 3 c) ∧ Kd.R (k81) 81 w' w.heap.size (fun _ => True) (.slice A 3 c) zY ∧ Below w.heap.size w w' := zaz A0 c0 zY w hr0 hc0 (by decide)
theorem KJ (A0 : Option Addr) (c0 : Nat) (w : World) (hr0 : Kd.C k84 w A0 3 qB) (hc0 : 3 ≤ c0) : Calls Tryz.prog 25 #[.slice A0 3 c0] w fun e w' => ∃ A c, e = .returned (.slice A 3 c) ∧ Kd.R (k84) 84 w' w.heap.size (fun _ => True) (.slice A 3 c) qB ∧ Below w.heap.size w w' := zaU A0 c0 qB w hr0 hc0 (by decide)
def zdz (w w' : World) (B gb : Nat) : Prop := (∃ dk x L, zR w' B 0 x ⟨⟨0, 0, 100000, fun _ => []⟩, 0, fun _ => none, fun _ => none⟩ gb dk 0 L (fun _ => []) (fun _ => []) ∧ B ≤ dk ∧ (x.most = 8 ∧ x.spans = 500 ∧ x.writes = 2000 ∧ x.ticks = 1000)) ∧ B ≤ gb ∧ Below w.heap.size w w'
theorem Ka (w : World) (B : Nat) (hB : B ≤ w.heap.size) (Am Ag Ao : Option Addr) (cm cg co : Nat) (hM : Kd.C k78 w Am 5 yA) (hcm : 5 ≤ cm) (hG : Kd.C k81 w Ag 3 zY) (hcg : 3 ≤ cg) (hO : Kd.C k84 w Ao 3 qB) (hco : 3 ≤ co) :
    Calls Tryz.prog 14 #[.agg (xR (.slice Am 5 cm) (.slice Ag 3 cg) (.slice Ao 3 co))] w fun e w' => ∃ gb, e = .returned (.tuple #[.pointer (some ⟨gb, 0, none⟩), .int .i64 0]) ∧ zdz w w' B gb := by
  have hu30 := Tryz.underlying30
  have hu98 := Tryz.underlying98
  have B1 := hQ (show Below w.heap.size w (w.alloc (.cells (xR (.slice Am 5 cm) (.slice Ag 3 cg) (.slice Ao 3 co)) 30)) from (Below.refl _ _).alloc (Nat.le_refl _) _)
  have X1 := hQ (zi w (.cells (xR (.slice Am 5 cm) (.slice Ag 3 cg) (.slice Ao 3 co)) 30))
  have M1 := hQ (Kd.zx hM B1.out)
  have G1 := hQ (Kd.zx hG B1.out)
  have O1 := hQ (Kd.zx hO B1.out)
  have HB := hQ hB
  have HCM := hQ hcm
  have HCG := hQ hcg
  have HCO := hQ hco
  clear hB hM hG hO hcm hcg hco
  simp only [xR] at B1 X1 M1 G1 O1 ⊢
  obtain ⟨z0, z1, z2, z3, z4, z5, z6, z7, z8, z9, z10, z11, z12⟩ := Xk X1.out
  go_enter Tryz.func14, Tryz.ntmps14
  go_wp2_with (fail)
  refine (KI _ Am Ag Ao cm cg co M1.out HCM.out G1.out O1.out HCO.out).mono ?_
  rintro e w2 ⟨rfl, hb⟩
  have X2 := hQ (zb X1.out hb)
  have B2 := hQ (zf B1.out B1.out.size hb)
  have M2 := hQ (Kd.zx M1.out hb)
  have G2 := hQ (Kd.zx G1.out hb)
  have O2 := hQ (Kd.zx O1.out hb)
  clear hb z0 z1 z2 z3 z4 z5 z6 z7 z8 z9 z10 z11 z12
  go_wp2_with (fail)
  have hb : Below w2.heap.size w2 w2.drew := zl (Below.refl _ _)
  have X3 := hQ (zb X2.out hb)
  have B3 := hQ (zf B2.out B2.out.size hb)
  have M3 := hQ (Kd.zx M2.out hb)
  have G3 := hQ (Kd.zx G2.out hb)
  have O3 := hQ (Kd.zx O2.out hb)
  clear hb
  refine sq_ (ds := [10, 12, 14]) #[false, false, false, false, false, false, false, false, false, false, false, false, false, false, false] (fun w' => w'.cell? ⟨w.heap.size, 0, none⟩ = some (.slice Am 5 cm) ∧ w'.cell? ⟨w.heap.size, 1, none⟩ = some (.slice Ag 3 cg) ∧ w'.cell? ⟨w.heap.size, 2, none⟩ = some (.int .i64 100) ∧ w'.cell? ⟨w.heap.size, 3, none⟩ = some (.int .i64 1000) ∧ w'.cell? ⟨w.heap.size, 4, none⟩ = some (.int .i64 8) ∧ w'.cell? ⟨w.heap.size, 5, none⟩ = some (.int .i64 8) ∧ w'.cell? ⟨w.heap.size, 6, none⟩ = some (.int .i64 100000) ∧ w'.cell? ⟨w.heap.size, 7, none⟩ = some (.int .i64 500) ∧ w'.cell? ⟨w.heap.size, 8, none⟩ = some (.int .i64 2000) ∧ w'.cell? ⟨w.heap.size, 9, none⟩ = some (.int .i64 1024) ∧ w'.cell? ⟨w.heap.size, 10, none⟩ = some (.int .i64 1024) ∧ w'.cell? ⟨w.heap.size, 11, none⟩ = some (.int .u64 0) ∧ w'.cell? ⟨w.heap.size, 12, none⟩ = some (.slice Ao 3 co)) ⟨za X3.out 0, za X3.out 1, za X3.out 2, za X3.out 3, za X3.out 4, za X3.out 5, za X3.out 6, za X3.out 7, za X3.out 8, za X3.out 9, za X3.out 10, za X3.out 11, za X3.out 12⟩ (fun hHeld => ?_)
  refine pq_ 0 (some 11) ?_
  refine pq_ 3 (some 14) ?_
  refine pq_ 6 (some 17) ?_
  refine tq_ 1 (some 12) hHeld ?_
  refine tq_ 4 (some 15) hHeld ?_
  refine tq_ 7 (some 18) hHeld ?_
  refine oq_ 2 (some 13) (fun K hK => ?_)
  refine yh Tryz.func23 (by kernel_rfl) rfl #[.slice Am 5 cm] (by rfl) rfl rfl (by (try simp only [List.map_toArray, List.map_cons, List.map_nil]); first | done | rfl) ?_
  refine (WT Am cm _ M3.out HCM.out).mono ?_
  rintro e w4 ⟨A1, k1, rfl, hr, hb⟩
  have P4 := hQ hr
  clear hr
  have X4 := hQ (zb X3.out hb)
  have B4 := hQ (zf B3.out B3.out.size hb)
  have G4 := hQ (Kd.zx G3.out hb)
  have O4 := hQ (Kd.zx O3.out hb)
  clear hb
  refine ⟨_, rfl, ?_⟩
  refine hK.out _ _ ⟨za X4.out 0, za X4.out 1, za X4.out 2, za X4.out 3, za X4.out 4, za X4.out 5, za X4.out 6, za X4.out 7, za X4.out 8, za X4.out 9, za X4.out 10, za X4.out 11, za X4.out 12⟩ (fun hHeld => ?_)
  clear hK K
  refine nq_ ?_
  refine pq_ 9 (some 20) ?_
  refine oq_ 5 (some 16) (fun K hK => ?_)
  refine yh Tryz.func24 (by kernel_rfl) rfl #[.slice Ag 3 cg] (by rfl) rfl rfl (by (try simp only [List.map_toArray, List.map_cons, List.map_nil]); first | done | rfl) ?_
  refine (Qs Ag cg _ G4.out HCG.out).mono ?_
  rintro e w5 ⟨A2, k2, rfl, hr, hb⟩
  have Q5 := hQ hr
  clear hr
  have X5 := hQ (zb X4.out hb)
  have B5 := hQ (zf B4.out B4.out.size hb)
  have P5 := hQ (Kd.zz P4.out hb)
  have O5 := hQ (Kd.zx O4.out hb)
  clear hb
  refine ⟨_, rfl, ?_⟩
  refine hK.out _ _ ⟨za X5.out 0, za X5.out 1, za X5.out 2, za X5.out 3, za X5.out 4, za X5.out 5, za X5.out 6, za X5.out 7, za X5.out 8, za X5.out 9, za X5.out 10, za X5.out 11, za X5.out 12⟩ (fun hHeld => ?_)
  clear hK K
  refine nq_ ?_
  refine oq_ 8 (some 19) (fun K hK => ?_)
  refine yh Tryz.func25 (by kernel_rfl) rfl #[.slice Ao 3 co] (by rfl) rfl rfl (by (try simp only [List.map_toArray, List.map_cons, List.map_nil]); first | done | rfl) ?_
  refine (KJ Ao co _ O5.out HCO.out).mono ?_
  rintro e w6 ⟨A3, k3, rfl, hr, hb⟩
  clear hr
  have X6 := hQ (zb X5.out hb)
  have B6 := hQ (zf B5.out B5.out.size hb)
  have P6 := hQ (Kd.zz P5.out hb)
  have Q6 := hQ (Kd.zz Q5.out hb)
  clear hb
  obtain ⟨z0, z1, z2, z3, z4, z5, z6, z7, z8, z9, z10, z11, z12⟩ := Xk X6.out
  have fz : ∀ i, w6.frozen? ⟨w.heap.size, i, none⟩ = false := fun i => zh X6.out i
  refine ⟨_, rfl, ?_⟩
  refine hK.out _ _ ⟨za X6.out 0, za X6.out 1, za X6.out 2, za X6.out 3, za X6.out 4, za X6.out 5, za X6.out 6, za X6.out 7, za X6.out 8, za X6.out 9, za X6.out 10, za X6.out 11, za X6.out 12⟩ (fun hHeld => ?_)
  clear hK K
  refine nq_ ?_
  refine kE (i := 10) (N := none) #[true, true, true, true, true, true, true, true, true, true, true, false, false, false, false] rfl rfl (by kernel_rfl) (by decide) (fun K hK => ?_)
  refine jY (w1 := ?_) (by rfl) rfl ?_ ?_
  rotate_left
  · go_simp
    rfl
  refine hK.out _ _ ?_
  clear hK K
  refine pq_ 11 (some 21) ?_
  refine kE (i := 12) (N := none) #[true, true, true, true, true, true, true, true, true, true, true, true, true, false, false] rfl rfl (by kernel_rfl) (by decide) (fun K hK => ?_)
  refine jY (w1 := ?_) (by rfl) rfl ?_ ?_
  rotate_left
  · go_simp
    rfl
  refine hK.out _ _ ?_
  clear hK K
  refine pq_ 13 (some 22) ?_
  refine kE (i := 14) (N := none) #[true, true, true, true, true, true, true, true, true, true, true, true, true, true, true] rfl rfl (by kernel_rfl) (by decide) (fun K hK => ?_)
  refine jY (w1 := ?_) (by rfl) rfl ?_ ?_
  rotate_left
  · go_simp
    rfl
  refine hK.out _ _ ?_
  clear hK K
  refine xJ (by kernel_rfl) ?_

  have hm0 : ∀ m : Nat, m ∈ ([] : List Nat) → ∃ es c, w6.heap[m]? = some (Obj.map es c) := fun m hm => (by cases hm)
  have e1 := blk_set (i := 0) (v := .slice A1 5 k1) X6.out
  have e2 := blk_set (i := 1) (v := .slice A2 3 k2) e1
  have e3 := blk_set (i := 12) (v := .slice A3 3 k3) e2
  have p1 := (Ch.set (T := [30]) (M := []) (B := 0) (i := 0) X6.out (by decide) (Nat.zero_le _) (fun m hm => (by cases hm)) (.slice A1 5 k1)).R P6.out (by decide)
  have p2 := (Ch.set (T := [30]) (M := []) (B := 0) (i := 1) e1 (by decide) (Nat.zero_le _) (fun m hm => (by cases hm)) (.slice A2 3 k2)).R p1 (by decide)
  have p3 := (Ch.set (T := [30]) (M := []) (B := 0) (i := 12) e2 (by decide) (Nat.zero_le _) (fun m hm => (by cases hm)) (.slice A3 3 k3)).R p2 (by decide)
  have q1 := (Ch.set (T := [30]) (M := []) (B := 0) (i := 0) X6.out (by decide) (Nat.zero_le _) (fun m hm => (by cases hm)) (.slice A1 5 k1)).R Q6.out (by decide)
  have q2 := (Ch.set (T := [30]) (M := []) (B := 0) (i := 1) e1 (by decide) (Nat.zero_le _) (fun m hm => (by cases hm)) (.slice A2 3 k2)).R q1 (by decide)
  have q3 := (Ch.set (T := [30]) (M := []) (B := 0) (i := 12) e2 (by decide) (Nat.zero_le _) (fun m hm => (by cases hm)) (.slice A3 3 k3)).R q2 (by decide)
  obtain ⟨W7, hW7⟩ : ∃ W7, W7 = ((w6.setCell ⟨w.heap.size, 0, none⟩ (.slice A1 5 k1)).setCell ⟨w.heap.size, 1, none⟩ (.slice A2 3 k2)).setCell ⟨w.heap.size, 12, none⟩ (.slice A3 3 k3) := ⟨_, rfl⟩
  have hb : Below W7.heap.size W7 W7.drew := zl (Below.refl _ _)
  have b7 : Below w.heap.size w W7 := by rw [hW7]; exact ((B6.out.setCell (Nat.le_refl _) _).setCell (Nat.le_refl _) _).setCell (Nat.le_refl _) _
  rw [← hW7] at e3 p3 q3 ⊢
  have X7 := hQ (zb (show W7.heap[w.heap.size]? = some (.cells #[.slice A1 5 k1, .slice A2 3 k2, .int .i64 100, .int .i64 1000, .int .i64 8, .int .i64 8, .int .i64 100000, .int .i64 500, .int .i64 2000, .int .i64 1024, .int .i64 1024, .int .u64 0, .slice A3 3 k3] 30 (0, 0)) from e3) hb)
  have B7 := hQ (zf b7 b7.size hb)
  have P7 := hQ (Kd.zz p3 hb)
  have Q7 := hQ (Kd.zz q3 hb)
  clear hb b7 e1 e2 e3 p1 p2 p3 q1 q2 q3 hm0 hW7 hHeld z0 z1 z2 z3 z4 z5 z6 z7 z8 z9 z10 z11 z12 fz X3 B3 M3 G3 O3 X4 B4 G4 O4 P4 X5 B5 P5 Q5 O5 X6 B6 P6 Q6
  go_wp2_with (fail)
  refine sq_ (ds := []) #[false, false, false, false, false, false, false, false, false, false, false, false, false] (fun w' => w'.cell? ⟨w.heap.size, 0, none⟩ = some (.slice A1 5 k1) ∧ w'.cell? ⟨w.heap.size, 1, none⟩ = some (.slice A2 3 k2) ∧ w'.cell? ⟨w.heap.size, 2, none⟩ = some (.int .i64 100) ∧ w'.cell? ⟨w.heap.size, 3, none⟩ = some (.int .i64 1000) ∧ w'.cell? ⟨w.heap.size, 4, none⟩ = some (.int .i64 8) ∧ w'.cell? ⟨w.heap.size, 5, none⟩ = some (.int .i64 8) ∧ w'.cell? ⟨w.heap.size, 6, none⟩ = some (.int .i64 100000) ∧ w'.cell? ⟨w.heap.size, 7, none⟩ = some (.int .i64 500) ∧ w'.cell? ⟨w.heap.size, 8, none⟩ = some (.int .i64 2000) ∧ w'.cell? ⟨w.heap.size, 9, none⟩ = some (.int .i64 1024) ∧ w'.cell? ⟨w.heap.size, 10, none⟩ = some (.int .i64 1024) ∧ w'.cell? ⟨w.heap.size, 11, none⟩ = some (.int .u64 0) ∧ w'.cell? ⟨w.heap.size, 12, none⟩ = some (.slice A3 3 k3)) ⟨za X7.out 0, za X7.out 1, za X7.out 2, za X7.out 3, za X7.out 4, za X7.out 5, za X7.out 6, za X7.out 7, za X7.out 8, za X7.out 9, za X7.out 10, za X7.out 11, za X7.out 12⟩ (fun hHeld => ?_)
  refine pq_ 0 (some 23) ?_
  refine pq_ 2 (some 25) ?_
  refine pq_ 5 (some 28) ?_
  refine pq_ 7 (some 30) ?_
  refine pq_ 9 (some 32) ?_
  refine tq_ 1 (some 24) hHeld ?_
  refine tq_ 3 (some 26) hHeld ?_
  refine tq_ 6 (some 29) hHeld ?_
  refine tq_ 8 (some 31) hHeld ?_
  refine tq_ 10 (some 33) hHeld ?_
  refine oq_ 4 (some 27) (fun K hK => ?_)
  refine yh Tryz.func27 (by kernel_rfl) rfl #[.int .u64 0, .int .i64 100000] (by rfl) rfl rfl (by (try simp only [List.map_toArray, List.map_cons, List.map_nil]); first | done | rfl) ?_
  refine (WE _ B (Nat.le_trans HB.out B7.out.size)).mono ?_
  rintro e w8 ⟨rfl, hs, hz, hb⟩
  have T8 := hQ hs
  have Z8 := hQ hz
  clear hs hz
  have X8 := hQ (zb X7.out hb)
  have B8 := hQ (zf B7.out B7.out.size hb)
  have P8 := hQ (Kd.zz P7.out hb)
  have Q8 := hQ (Kd.zz Q7.out hb)
  clear hb
  refine ⟨_, rfl, ?_⟩
  refine hK.out _ _ ⟨za X8.out 0, za X8.out 1, za X8.out 2, za X8.out 3, za X8.out 4, za X8.out 5, za X8.out 6, za X8.out 7, za X8.out 8, za X8.out 9, za X8.out 10, za X8.out 11, za X8.out 12⟩ (fun hHeld => ?_)
  clear hK K
  refine nq_ ?_
  refine oq_ 11 (some 34) (fun K hK => ?_)
  refine yh Tryz.func26 (by kernel_rfl) rfl #[.pointer (some ⟨W7.drew.heap.size + 1, 0, none⟩), .int .i64 8, .int .i64 500, .int .i64 2000] (by rfl) rfl rfl (by (try simp only [List.map_toArray, List.map_cons, List.map_nil]); first | done | rfl) ?_
  refine (zb6 _ B (W7.drew.heap.size + 1) (Nat.le_trans HB.out B8.out.size)).mono ?_
  rintro e w9 ⟨rfl, hs, hz, hb⟩
  have E9 := hQ hs
  have Z9 := hQ hz
  clear hs hz
  have X9 := hQ (zb X8.out hb)
  have B9 := hQ (zf B8.out B8.out.size hb)
  have T9 := hQ (T8.out.below hb)
  have P9 := hQ (Kd.zz P8.out hb)
  have Q9 := hQ (Kd.zz Q8.out hb)
  clear hb
  refine ⟨_, rfl, ?_⟩
  refine hK.out _ _ ⟨za X9.out 0, za X9.out 1, za X9.out 2, za X9.out 3, za X9.out 4, za X9.out 5, za X9.out 6, za X9.out 7, za X9.out 8, za X9.out 9, za X9.out 10, za X9.out 11, za X9.out 12⟩ (fun hHeld => ?_)
  clear hK K
  refine nq_ ?_
  refine pq_ 12 (some 5) ?_
  refine xJ (by kernel_rfl) ?_

  go_wp2_with (fail)
  have hb : Below w9.heap.size w9 w9.drew := zl (Below.refl _ _)
  have X10 := hQ (zb X9.out hb)
  have B10 := hQ (zf B9.out B9.out.size hb)
  have P10 := hQ (Kd.zz P9.out hb)
  have Q10 := hQ (Kd.zz Q9.out hb)
  have T10 := hQ (T9.out.below hb)
  have E10 := hQ (E9.out.below hb)
  clear hb
  refine sq_ (ds := []) #[false, false, false, false, false, false, false, false, false, false, false, false] (fun w' => w'.cell? ⟨w.heap.size, 0, none⟩ = some (.slice A1 5 k1) ∧ w'.cell? ⟨w.heap.size, 1, none⟩ = some (.slice A2 3 k2) ∧ w'.cell? ⟨w.heap.size, 2, none⟩ = some (.int .i64 100) ∧ w'.cell? ⟨w.heap.size, 3, none⟩ = some (.int .i64 1000) ∧ w'.cell? ⟨w.heap.size, 4, none⟩ = some (.int .i64 8) ∧ w'.cell? ⟨w.heap.size, 5, none⟩ = some (.int .i64 8) ∧ w'.cell? ⟨w.heap.size, 6, none⟩ = some (.int .i64 100000) ∧ w'.cell? ⟨w.heap.size, 7, none⟩ = some (.int .i64 500) ∧ w'.cell? ⟨w.heap.size, 8, none⟩ = some (.int .i64 2000) ∧ w'.cell? ⟨w.heap.size, 9, none⟩ = some (.int .i64 1024) ∧ w'.cell? ⟨w.heap.size, 10, none⟩ = some (.int .i64 1024) ∧ w'.cell? ⟨w.heap.size, 11, none⟩ = some (.int .u64 0) ∧ w'.cell? ⟨w.heap.size, 12, none⟩ = some (.slice A3 3 k3)) ⟨za X10.out 0, za X10.out 1, za X10.out 2, za X10.out 3, za X10.out 4, za X10.out 5, za X10.out 6, za X10.out 7, za X10.out 8, za X10.out 9, za X10.out 10, za X10.out 11, za X10.out 12⟩ (fun hHeld => ?_)
  refine pq_ 1 (some 36) ?_
  refine pq_ 4 (some 39) ?_
  refine pq_ 5 (some 40) ?_
  refine tq_ 0 (some 35) hHeld ?_
  refine tq_ 2 (some 37) hHeld ?_
  refine tq_ 6 (some 41) hHeld ?_
  refine oq_ 3 (some 38) (fun K hK => ?_)
  refine yh Tryz.func28 (by kernel_rfl) rfl #[.int .i64 8] (by rfl) rfl rfl (by (try simp only [List.map_toArray, List.map_cons, List.map_nil]); first | done | rfl) ?_
  refine (za7 _).mono ?_
  rintro e w11 ⟨rfl, hs, hz, hb⟩
  have D11 := hQ hs
  have Z11 := hQ hz
  clear hs hz
  have X11 := hQ (zb X10.out hb)
  have B11 := hQ (zf B10.out B10.out.size hb)
  have T11 := hQ (T10.out.below hb)
  have E11 := hQ (E10.out.below hb)
  have P11 := hQ (Kd.zz P10.out hb)
  have Q11 := hQ (Kd.zz Q10.out hb)
  clear hb
  refine ⟨_, rfl, ?_⟩
  refine hK.out _ _ ⟨za X11.out 0, za X11.out 1, za X11.out 2, za X11.out 3, za X11.out 4, za X11.out 5, za X11.out 6, za X11.out 7, za X11.out 8, za X11.out 9, za X11.out 10, za X11.out 11, za X11.out 12⟩ (fun hHeld => ?_)
  clear hK K
  refine nq_ ?_
  refine oq_ 7 (some 42) (fun K hK => ?_)
  refine yh Tryz.func29 (by kernel_rfl) rfl #[.pointer (some ⟨w8.heap.size + 1, 0, none⟩), .int .i64 1000] (by rfl) rfl rfl (by (try simp only [List.map_toArray, List.map_cons, List.map_nil]); first | done | rfl) ?_
  refine (zaD _ B (w8.heap.size + 1) (Nat.le_trans HB.out B11.out.size)).mono ?_
  rintro e w12 ⟨rfl, hbk, hs, hz, hb⟩
  have K12 := hQ hbk
  have S12 := hQ hs
  have Z12 := hQ hz
  clear hs hz hbk
  have X12 := hQ (zb X11.out hb)
  have B12 := hQ (zf B11.out B11.out.size hb)
  have T12 := hQ (T11.out.below hb)
  have E12 := hQ (E11.out.below hb)
  have D12 := hQ (D11.out.below hb)
  have P12 := hQ (Kd.zz P11.out hb)
  have Q12 := hQ (Kd.zz Q11.out hb)
  clear hb
  refine ⟨_, rfl, ?_⟩
  refine hK.out _ _ ⟨za X12.out 0, za X12.out 1, za X12.out 2, za X12.out 3, za X12.out 4, za X12.out 5, za X12.out 6, za X12.out 7, za X12.out 8, za X12.out 9, za X12.out 10, za X12.out 11, za X12.out 12⟩ (fun hHeld => ?_)
  clear hK K
  refine nq_ ?_
  refine oq_ 8 (some 43) (fun K hK => ?_)
  obtain ⟨ga, hga⟩ : ∃ ga : Array Value, ga = (((((((((((((((Tryz.zeroCells98.setIfInBounds 0 (.slice A1 5 k1)).setIfInBounds 1 (.slice A2 3 k2)).setIfInBounds 2 (.int .i64 100)).setIfInBounds 3 (.int .i64 1000)).setIfInBounds 4 (.int .i64 8)).setIfInBounds 5 (.int .i64 8)).setIfInBounds 6 (.int .i64 100000)).setIfInBounds 7 (.int .i64 500)).setIfInBounds 8 (.int .i64 2000)).setIfInBounds 9 (.int .i64 1024)).setIfInBounds 10 (.int .i64 1024)).setIfInBounds 11 (.int .u64 0)).setIfInBounds 12 (.slice A3 3 k3)).setIfInBounds 13 (.pointer (some ⟨w9.heap.size, 0, none⟩))).setIfInBounds 14 (.pointer (some ⟨w11.heap.size + 3, 0, none⟩))) := ⟨_, rfl⟩
  have hgs : ga.size = 79 := by rw [hga]; simp only [Array.size_setIfInBounds]; kernel_rfl
  refine jZ (w1 := ?_) (v := ?_) (by rfl) rfl ?_ ?_
  rotate_left 2
  · go_simp
    rw [← hga]
    constructor
    · rfl
    · rfl
  have HGA := hQ hga
  clear hga
  refine hK.out _ _ ⟨za X12.out 0, za X12.out 1, za X12.out 2, za X12.out 3, za X12.out 4, za X12.out 5, za X12.out 6, za X12.out 7, za X12.out 8, za X12.out 9, za X12.out 10, za X12.out 11, za X12.out 12⟩ (fun hHeld => ?_)
  clear hK K
  refine nq_ ?_
  refine oq_ 9 (some 44) (fun K hK => ?_)
  refine jZ (w1 := ?_) (v := ?_) (by rfl) rfl ?_ ?_
  rotate_left 2
  · go_simp
    constructor
    · rfl
    · rfl
  have X13 := hQ (zg X12.out (.cells ga 98))
  refine hK.out _ _ ⟨za X13.out 0, za X13.out 1, za X13.out 2, za X13.out 3, za X13.out 4, za X13.out 5, za X13.out 6, za X13.out 7, za X13.out 8, za X13.out 9, za X13.out 10, za X13.out 11, za X13.out 12⟩ (fun hHeld => ?_)
  clear hK K
  refine nq_ ?_
  refine pq_ 10 (some 2) ?_
  refine pq_ 11 (some 3) ?_
  refine xJ (by kernel_rfl) ?_

  have hb : Below w12.heap.size w12 (w12.alloc (.cells ga 98)) := (Below.refl _ _).alloc (Nat.le_refl _) _
  have hcs : GCs ga (.slice A1 5 k1) (.slice A2 3 k2) (.slice A3 3 k3) w9.heap.size (w11.heap.size + 3) 0 (fun _ _ => 0) := by rw [HGA.out]; exact zbq _ _ _ _ _ _
  have hcf : qO (w12.alloc (.cells ga 98)) (.slice A1 5 k1) (.slice A2 3 k2) := ⟨⟨A1, k1, rfl, Kd.zU (Kd.zz P12.out hb) (Nat.zero_le _)⟩, A2, k2, rfl, Kd.zU (Kd.zz Q12.out hb) (Nat.zero_le _)⟩
  have z8 := Z8.out
  have z9 := Z9.out
  have z11 : w11.heap.size = w9.heap.size + 1 := Z11.out
  have z12 := Z12.out
  have hslv : ym (w12.alloc (.cells ga 98)) B 0 ⟨w11.heap.size + 3, w8.heap.size + 1, W7.drew.heap.size + 1, w11.heap.size + 1, w11.heap.size + 2, w8.heap.size, W7.drew.heap.size, w11.heap.size, 1000, 8, 500, 2000⟩ ⟨⟨0, 0, 100000, fun _ => []⟩, 0, fun _ => none, fun _ => none⟩ :=
    ⟨T12.out.below hb, E12.out.below hb, K12.out.below hb, S12.out.below hb, ⟨by show w11.heap.size + 2 ≠ w8.heap.size; omega, by show w11.heap.size + 2 ≠ W7.drew.heap.size; omega, by show w11.heap.size + 2 ≠ w11.heap.size; omega, by show w8.heap.size ≠ W7.drew.heap.size; omega, by show w8.heap.size ≠ w11.heap.size; omega, by show W7.drew.heap.size ≠ w11.heap.size; omega⟩⟩
  have hfin : zdz w (w12.alloc (.cells ga 98)) B w12.heap.size :=
    ⟨⟨w9.heap.size, _, fun _ _ => 0, ⟨⟨ga, _, _, _, zi w12 _, hcs, hcf⟩, D12.out.below hb, hslv, fun c hc => absurd hc (Nat.not_lt_zero _), fun c hc => absurd hc (Nat.not_lt_zero _), fun c i hc => absurd hc (Nat.not_lt_zero _), fun c c' i j hc => absurd hc (Nat.not_lt_zero _)⟩, Nat.le_trans HB.out B9.out.size, ⟨rfl, rfl, rfl, rfl⟩⟩, Nat.le_trans HB.out B12.out.size, B12.out.alloc B12.out.size _⟩
  have HFIN := hQ hfin
  clear hfin hslv hcf hcs hb z8 z9 z11 z12 hHeld hgs
  go_wp2
  refine bodyPost_ret (v := .tuple #[.pointer (some ⟨w12.heap.size, 0, none⟩), .int .i64 0]) (by simp [results, Tryz.results14, go_sem]) rfl ⟨w12.heap.size, rfl, HFIN.out⟩
open Go.Proofs.YtlalbohhopmpdaaGreat.Ring (yT yt xh qj)
open Go.Proofs.YtlalbohhopmpdaaGreat.LemHeadTop Go.Proofs.YtlalbohhopmpdaaGreat.LemAduTop
def G0 : Sg := ⟨⟨0, 0, 100000, fun _ => []⟩, 0, fun _ => none, fun _ => none⟩
def VC (w w' : World) (tb n : Nat) : Prop := ∃ gb dk x L, xz w' w.heap.size 0 x G0 tb gb dk n L 0 ∧ (x.most = 8 ∧ x.spans = 500 ∧ x.writes = 2000 ∧ x.ticks = 1000) ∧ Below w.heap.size w w'
theorem KP (w : World) (Am Ag Ao : Option Addr) (cm cg co : Nat) (hM : Kd.C k78 w Am 5 yA) (hcm : 5 ≤ cm) (hG : Kd.C k81 w Ag 3 zY) (hcg : 3 ≤ cg) (hO : Kd.C k84 w Ao 3 qB) (hco : 3 ≤ co) :
    Calls Tryz.prog 6 #[.agg (xR (.slice Am 5 cm) (.slice Ag 3 cg) (.slice Ao 3 co)), .int .i64 2] w fun e w' => ∃ tb, e = .returned (.pointer (some ⟨tb, 0, none⟩)) ∧ VC w w' tb 2 := by
  have hu30 := Tryz.underlying30
  have hu61 := Tryz.underlying61
  have B1 := hQ (show Below w.heap.size w (w.alloc (.cells (xR (.slice Am 5 cm) (.slice Ag 3 cg) (.slice Ao 3 co)) 30)) from (Below.refl _ _).alloc (Nat.le_refl _) _)
  have X1 := hQ (zi w (.cells (xR (.slice Am 5 cm) (.slice Ag 3 cg) (.slice Ao 3 co)) 30))
  have hN := Ka _ w.heap.size B1.out.size Am Ag Ao cm cg co (Kd.zx hM B1.out) hcm (Kd.zx hG B1.out) hcg (Kd.zx hO B1.out) hco
  clear hM hG hO hcm hcg hco
  simp only [xR] at B1 X1 hN ⊢
  obtain ⟨z0, z1, z2, z3, z4, z5, z6, z7, z8, z9, z10, z11, z12⟩ := Xk X1.out
  go_enter Tryz.func6, Tryz.ntmps6
  go_wp2_with (fail)
  refine hN.mono ?_
  rintro e w3 ⟨gb, rfl, ⟨dk, x, L0, hg, hdk, hx⟩, hgb, hbw⟩
  have G3 := hQ hg
  have HDK := hQ hdk
  have HGB := hQ hgb
  have HX := hQ hx
  have E3 := hQ (zf B1.out B1.out.size hbw)
  clear hg hdk hgb hx hbw z0 z1 z2 z3 z4 z5 z6 z7 z8 z9 z10 z11 z12
  go_wp2_with (fail)
  refine wp_loop_rounds 3 ?_
  rw [rounds_succ]
  go_wp2_with (fail)
  refine (XZ w3 w.heap.size 0 x _ gb dk L0 G3.out HGB.out HDK.out).mono ?_
  rintro e w40 ⟨rfl, ⟨L1, hg⟩, hc⟩
  have hbw : Below w40.heap.size w40 (w40.alloc (.cells #[.bool true, .int .i64 0, .slice none 0 0] 61)) := (Below.refl _ _).alloc (Nat.le_refl _) _
  obtain ⟨w4, hw4⟩ : ∃ w4, w4 = w40.alloc (.cells #[.bool true, .int .i64 0, .slice none 0 0] 61) := ⟨_, rfl⟩
  rw [← hw4] at hbw
  have G4 := hQ (hg.below hbw)
  have E4 := hQ (zf (hc.below E3.out) (Nat.le_trans E3.out.size hc.size) hbw)
  have Z4 := hQ (show w4.heap[w40.heap.size]? = some (.cells #[.bool true, .int .i64 0, .slice none 0 0] 61 (0, 0)) by rw [hw4]; exact zi _ _)
  clear hg hc hbw
  obtain ⟨u0, u1, u2⟩ := kV Z4.out
  rw [hw4] at u0 u1 u2
  go_wp2_with (fail)
  rw [← hw4] at u0 u1 u2 ⊢
  clear u0 u1 u2 hw4
  rw [rounds_succ]
  go_wp2_with (fail)
  refine (XU w4 w.heap.size 0 x _ gb dk L1 G4.out HGB.out HDK.out).mono ?_
  rintro e w50 ⟨rfl, ⟨L2, hg⟩, hc⟩
  have hbw : Below w50.heap.size w50 (w50.alloc (.cells #[.bool true, .int .i64 1, .slice none 0 0] 61)) := (Below.refl _ _).alloc (Nat.le_refl _) _
  obtain ⟨w5, hw5⟩ : ∃ w5, w5 = w50.alloc (.cells #[.bool true, .int .i64 1, .slice none 0 0] 61) := ⟨_, rfl⟩
  rw [← hw5] at hbw
  have G5 := hQ (hg.below hbw)
  have E5 := hQ (zf (hc.below E4.out) (Nat.le_trans E4.out.size hc.size) hbw)
  have Z5 := hQ (show w5.heap[w50.heap.size]? = some (.cells #[.bool true, .int .i64 1, .slice none 0 0] 61 (0, 0)) by rw [hw5]; exact zi _ _)
  clear hg hc hbw
  obtain ⟨u0, u1, u2⟩ := kV Z5.out
  rw [hw5] at u0 u1 u2
  go_wp2_with (fail)
  rw [← hw5] at u0 u1 u2 ⊢
  clear u0 u1 u2 hw5
  rw [rounds_succ]
  have hbw : Below w5.heap.size w5 (w5.alloc (.cells #[.pointer (some ⟨gb, 0, none⟩), .int .i64 0] 53)) := (Below.refl _ _).alloc (Nat.le_refl _) _
  have hfin : VC w (w5.alloc (.cells #[.pointer (some ⟨gb, 0, none⟩), .int .i64 0] 53)) w5.heap.size 2 := ⟨gb, dk, x, L2, ⟨zi _ _, G5.out.below hbw, E5.out.size⟩, HX.out, zf E5.out E5.out.size hbw⟩
  have HF := hQ hfin
  clear hfin hbw
  go_wp2_with (fail)
  exact bodyPost_ret (v := .pointer (some ⟨w5.heap.size, 0, none⟩)) (by simp [results, Tryz.results6, go_sem]) rfl ⟨w5.heap.size, rfl, HF.out⟩
theorem KN (w : World) (Am Ag Ao : Option Addr) (cm cg co : Nat) (hM : Kd.C k78 w Am 5 yA) (hcm : 5 ≤ cm) (hG : Kd.C k81 w Ag 3 zY) (hcg : 3 ≤ cg) (hO : Kd.C k84 w Ao 3 qB) (hco : 3 ≤ co) :
    Calls Tryz.prog 6 #[.agg (xR (.slice Am 5 cm) (.slice Ag 3 cg) (.slice Ao 3 co)), .int .i64 3] w fun e w' => ∃ tb, e = .returned (.pointer (some ⟨tb, 0, none⟩)) ∧ VC w w' tb 3 := by
  have hu30 := Tryz.underlying30
  have hu61 := Tryz.underlying61
  have B1 := hQ (show Below w.heap.size w (w.alloc (.cells (xR (.slice Am 5 cm) (.slice Ag 3 cg) (.slice Ao 3 co)) 30)) from (Below.refl _ _).alloc (Nat.le_refl _) _)
  have X1 := hQ (zi w (.cells (xR (.slice Am 5 cm) (.slice Ag 3 cg) (.slice Ao 3 co)) 30))
  have hN := Ka _ w.heap.size B1.out.size Am Ag Ao cm cg co (Kd.zx hM B1.out) hcm (Kd.zx hG B1.out) hcg (Kd.zx hO B1.out) hco
  clear hM hG hO hcm hcg hco
  simp only [xR] at B1 X1 hN ⊢
  obtain ⟨z0, z1, z2, z3, z4, z5, z6, z7, z8, z9, z10, z11, z12⟩ := Xk X1.out
  go_enter Tryz.func6, Tryz.ntmps6
  go_wp2_with (fail)
  refine hN.mono ?_
  rintro e w3 ⟨gb, rfl, ⟨dk, x, L0, hg, hdk, hx⟩, hgb, hbw⟩
  have G3 := hQ hg
  have HDK := hQ hdk
  have HGB := hQ hgb
  have HX := hQ hx
  have E3 := hQ (zf B1.out B1.out.size hbw)
  clear hg hdk hgb hx hbw z0 z1 z2 z3 z4 z5 z6 z7 z8 z9 z10 z11 z12
  go_wp2_with (fail)
  refine wp_loop_rounds 4 ?_
  rw [rounds_succ]
  go_wp2_with (fail)
  refine (XZ w3 w.heap.size 0 x _ gb dk L0 G3.out HGB.out HDK.out).mono ?_
  rintro e w40 ⟨rfl, ⟨L1, hg⟩, hc⟩
  have hbw : Below w40.heap.size w40 (w40.alloc (.cells #[.bool true, .int .i64 0, .slice none 0 0] 61)) := (Below.refl _ _).alloc (Nat.le_refl _) _
  obtain ⟨w4, hw4⟩ : ∃ w4, w4 = w40.alloc (.cells #[.bool true, .int .i64 0, .slice none 0 0] 61) := ⟨_, rfl⟩
  rw [← hw4] at hbw
  have G4 := hQ (hg.below hbw)
  have E4 := hQ (zf (hc.below E3.out) (Nat.le_trans E3.out.size hc.size) hbw)
  have Z4 := hQ (show w4.heap[w40.heap.size]? = some (.cells #[.bool true, .int .i64 0, .slice none 0 0] 61 (0, 0)) by rw [hw4]; exact zi _ _)
  clear hg hc hbw
  obtain ⟨u0, u1, u2⟩ := kV Z4.out
  rw [hw4] at u0 u1 u2
  go_wp2_with (fail)
  rw [← hw4] at u0 u1 u2 ⊢
  clear u0 u1 u2 hw4
  rw [rounds_succ]
  go_wp2_with (fail)
  refine (XU w4 w.heap.size 0 x _ gb dk L1 G4.out HGB.out HDK.out).mono ?_
  rintro e w50 ⟨rfl, ⟨L2, hg⟩, hc⟩
  have hbw : Below w50.heap.size w50 (w50.alloc (.cells #[.bool true, .int .i64 1, .slice none 0 0] 61)) := (Below.refl _ _).alloc (Nat.le_refl _) _
  obtain ⟨w5, hw5⟩ : ∃ w5, w5 = w50.alloc (.cells #[.bool true, .int .i64 1, .slice none 0 0] 61) := ⟨_, rfl⟩
  rw [← hw5] at hbw
  have G5 := hQ (hg.below hbw)
  have E5 := hQ (zf (hc.below E4.out) (Nat.le_trans E4.out.size hc.size) hbw)
  have Z5 := hQ (show w5.heap[w50.heap.size]? = some (.cells #[.bool true, .int .i64 1, .slice none 0 0] 61 (0, 0)) by rw [hw5]; exact zi _ _)
  clear hg hc hbw
  obtain ⟨u0, u1, u2⟩ := kV Z5.out
  rw [hw5] at u0 u1 u2
  go_wp2_with (fail)
  rw [← hw5] at u0 u1 u2 ⊢
  clear u0 u1 u2 hw5
  rw [rounds_succ]
  go_wp2_with (fail)
  refine (Wn w5 w.heap.size 0 x _ gb dk L2 G5.out HGB.out HDK.out).mono ?_
  rintro e w60 ⟨rfl, ⟨L3, hg⟩, hc⟩
  have hbw : Below w60.heap.size w60 (w60.alloc (.cells #[.bool true, .int .i64 2, .slice none 0 0] 61)) := (Below.refl _ _).alloc (Nat.le_refl _) _
  obtain ⟨w6, hw6⟩ : ∃ w6, w6 = w60.alloc (.cells #[.bool true, .int .i64 2, .slice none 0 0] 61) := ⟨_, rfl⟩
  rw [← hw6] at hbw
  have G6 := hQ (hg.below hbw)
  have E6 := hQ (zf (hc.below E5.out) (Nat.le_trans E5.out.size hc.size) hbw)
  have Z6 := hQ (show w6.heap[w60.heap.size]? = some (.cells #[.bool true, .int .i64 2, .slice none 0 0] 61 (0, 0)) by rw [hw6]; exact zi _ _)
  clear hg hc hbw
  obtain ⟨u0, u1, u2⟩ := kV Z6.out
  rw [hw6] at u0 u1 u2
  go_wp2_with (fail)
  rw [← hw6] at u0 u1 u2 ⊢
  clear u0 u1 u2 hw6
  rw [rounds_succ]
  have hbw : Below w6.heap.size w6 (w6.alloc (.cells #[.pointer (some ⟨gb, 0, none⟩), .int .i64 0] 53)) := (Below.refl _ _).alloc (Nat.le_refl _) _
  have hfin : VC w (w6.alloc (.cells #[.pointer (some ⟨gb, 0, none⟩), .int .i64 0] 53)) w6.heap.size 3 := ⟨gb, dk, x, L3, ⟨zi _ _, G6.out.below hbw, E6.out.size⟩, HX.out, zf E6.out E6.out.size hbw⟩
  have HF := hQ hfin
  clear hfin hbw
  go_wp2_with (fail)
  exact bodyPost_ret (v := .pointer (some ⟨w6.heap.size, 0, none⟩)) (by simp [results, Tryz.results6, go_sem]) rfl ⟨w6.heap.size, rfl, HF.out⟩
theorem YI (w : World) (m : Int) (hm : 0 ≤ m ∧ m < 256) :
    Calls Tryz.prog 9 #[.int .i64 m] w fun e w' => e = .returned (qF 100 m) ∧ Below w.heap.size w w' := by
  have hu37 := Tryz.underlying37
  have hw := ji m 65536 (by omega)
  have hu : IntKind.u16.wrap m = m := by show m % 65536 = m; omega
  have X1 := hQ (zi w (.cells yM 37))
  have B1 := hQ (show Below w.heap.size w (w.alloc (.cells yM 37)) from (Below.refl _ _).alloc (Nat.le_refl _) _)
  clear hm
  simp only [qF, yM] at X1 B1 ⊢
  go_enter Tryz.func9, Tryz.ntmps9
  go_wp2_with (fail)
  refine (zK.calls m 65536 m _ hw).mono ?_
  rintro e w2 ⟨rfl, hd⟩
  have B2 := hQ (zf B1.out B1.out.size hd.below)
  have X2 := hQ (zb X1.out hd.below)
  clear hd
  obtain ⟨x0, x1, x2, x3, x4, x5, x6, x7, x8, x9, x10, x11⟩ := zV X2.out
  have fx : ∀ i, w2.frozen? ⟨w.heap.size, i, none⟩ = false := fun i => zh X2.out i
  go_wp2
  refine bodyPost_ret (v := .agg #[.int .i64 6, .int .i64 100, .int .i64 0, .int .u16 m, .int .u16 0, .int .u16 0, .slice none 0 0, .slice none 0 0, .int .i64 0, .int .i64 0, .int .i64 0, .int .i64 0]) ?_ rfl ⟨rfl, B2.out.trans ?_⟩
  · simp [results, Tryz.results9, go_sem, hu37, x0, x1, x2, x3, x4, x5, x6, x7, x8, x9, x10, x11]
  · (repeat (with_reducible first | exact Below.refl _ _ | (refine jG ?_ (by omega))))
def wG1 : Sg := (G0.put 0 ⟨0, [], []⟩).turn 0 (1, 0, 0)
def wG2 : Sg := wG1.put 0 ⟨0, [], [⟨⟨2, 2⟩, 7⟩]⟩
def wG3 : Sg := wG2.scommit 0 ⟨0, [], [⟨⟨2, 2⟩, 7⟩]⟩
theorem ok0 : kG wG2.s.ch := fun k => ⟨List.Pairwise.nil, Nat.zero_le _⟩
theorem ok1 : kG wG3.s.ch := by
  intro k
  have h : wG3.s.ch k = if k = (2, 2) then [⟨1, 7⟩] else [] := rfl
  rw [h]
  split
  · exact ⟨List.pairwise_singleton _ _, by decide⟩
  · exact ⟨List.Pairwise.nil, Nat.zero_le _⟩
theorem zcH {w : World} {base : Nat} {ok : Nat → Prop} {A : Option Addr} {n c : Nat} {x : Int} (h : Kd.R (Kd.int .u16) 33 w base ok (.slice A n c) [x]) : ∃ g, A = some ⟨g, 0, none⟩ ∧ w.cell? ⟨g, 0, none⟩ = some (.int .u16 x) := by
  obtain ⟨g, cap, e, _, _, _⟩ := Kd.qm h (by simp)
  injection e with e _ _
  refine ⟨g, e, ?_⟩
  have hC := (Kd.zB h).2.2
  have hl := hC.1
  obtain ⟨ad, e1, hr⟩ := hC.2.2 (by rw [← hl]; exact Nat.zero_lt_one)
  rw [e] at e1
  injection e1 with e1
  subst e1
  obtain ⟨c, h1, h2, h3⟩ := hr 0 x rfl
  obtain rfl : c = [Value.int .u16 x] := h2
  have := h3 0 _ rfl
  rw [← this]
  rfl
theorem kM (w : World) : Calls Tryz.prog 5 #[] w fun e w' => e = .returned (.bool true) ∧ Below w.heap.size w w' := by
  have hu41 := Tryz.underlying41
  have hOrd1 := fun w : World => YI w 1 (by omega)
  have hOrd2 := fun w : World => YI w 2 (by omega)
  simp only [qF] at hOrd1 hOrd2
  go_enter Tryz.func5, Tryz.ntmps5
  go_wp2_with (fail)
  refine (zaB _).mono ?_
  rintro e w2 ⟨v0, v1, v12, rfl, h0, h1, h2, hb2⟩
  obtain ⟨Am, cm, rfl⟩ := Kd.yc h0
  obtain ⟨Ag, cg, rfl⟩ := Kd.yc h1
  obtain ⟨Ao, co, rfl⟩ := Kd.yc h2
  have hO := KP w2 Am Ag Ao cm cg co (Kd.zB h0).2.2 (Kd.zB h0).2.1 (Kd.zB h1).2.2 (Kd.zB h1).2.1 (Kd.zB h2).2.2 (Kd.zB h2).2.1
  have B2 := hQ hb2
  clear h0 h1 h2 hb2
  go_wp2_with (fail)
  refine hO.mono ?_
  rintro e w3 ⟨tb, rfl, gb, dk, x, L, hT, hx, hb3⟩
  have T3 := hQ hT
  have HX := hQ hx
  have E3 := hQ hb3
  clear hT hx hb3 hO
  go_wp2_with (fail)
  refine (hOrd1 _).mono ?_
  rintro e o0 ⟨rfl, hbw⟩
  have T0_ := hQ (T3.out.below hbw)
  have E0_ := hQ (zf E3.out E3.out.size hbw)
  clear hbw
  go_wp2_with (fail)
  have T := T0_.out
  have hs : yV _ _ 4 _ wG1 _ _ _ 2 _ 0 0 _ _ _ _ _ _ _ _ := Zw T (by omega) (by omega) 0 (by decide) rfl (by decide) (by rw [HX.out.1]; decide)
  clear T
  simp only [yV, yu, zW] at hs
  refine hs.mono ?_
  rintro e v0 ⟨A0, q0, rfl, hr, hT, hc⟩
  have hE := zf (hc.below E0_.out) (Nat.le_trans E0_.out.size hc.size) (zy (Below.refl _ _) (.cells #[.int .i64 6, .int .i64 0, .slice none 0 0, .slice A0 0 q0, .int .i64 100, .int .i64 0, .int .u16 1, .int .u16 0, .int .u16 0, .int .i64 0, .int .i64 0, .bool false, .int .i64 0, .slice none 0 0] 41))
  have hbw : Below v0.heap.size v0 (v0.alloc (.cells #[.int .i64 6, .int .i64 0, .slice none 0 0, .slice A0 0 q0, .int .i64 100, .int .i64 0, .int .u16 1, .int .u16 0, .int .u16 0, .int .i64 0, .int .i64 0, .bool false, .int .i64 0, .slice none 0 0] 41)) := (Below.refl _ _).alloc (Nat.le_refl _) _
  have T10 := hQ (hT.below hbw)
  have E10 := hQ hE
  have Z0 := hQ (zi v0 (.cells #[.int .i64 6, .int .i64 0, .slice none 0 0, .slice A0 0 q0, .int .i64 100, .int .i64 0, .int .u16 1, .int .u16 0, .int .u16 0, .int .i64 0, .int .i64 0, .bool false, .int .i64 0, .slice none 0 0] 41))
  clear hs hr hT hc hE hbw
  go_wp2_with (fail)
  have T := T10.out
  have hs : yV _ _ 6 _ wG2 _ _ _ 2 _ 1 0 _ _ _ _ _ _ _ _ := Va T (by omega) (by omega) 0 (by decide) 2 7 (by decide) (by omega) rfl 0 [] (by decide) rfl HX.out.2.2.1
  clear T
  simp only [yV, yu, zW] at hs
  refine hs.mono ?_
  rintro e v1 ⟨A1, q1, rfl, hr, hT, hc⟩
  have hE := zf (hc.below E10.out) (Nat.le_trans E10.out.size hc.size) (zy (Below.refl _ _) (.cells #[.int .i64 6, .int .i64 0, .slice none 0 0, .slice A1 0 q1, .int .i64 2, .int .i64 0, .int .u16 7, .int .u16 0, .int .u16 0, .int .i64 0, .int .i64 0, .bool false, .int .i64 0, .slice none 0 0] 41))
  have hbw : Below v1.heap.size v1 (v1.alloc (.cells #[.int .i64 6, .int .i64 0, .slice none 0 0, .slice A1 0 q1, .int .i64 2, .int .i64 0, .int .u16 7, .int .u16 0, .int .u16 0, .int .i64 0, .int .i64 0, .bool false, .int .i64 0, .slice none 0 0] 41)) := (Below.refl _ _).alloc (Nat.le_refl _) _
  replace Z0 := hQ (zb (hc.cell Z0.out (by decide)) hbw)
  have T11 := hQ (hT.below hbw)
  have E11 := hQ hE
  have Z1 := hQ (zi v1 (.cells #[.int .i64 6, .int .i64 0, .slice none 0 0, .slice A1 0 q1, .int .i64 2, .int .i64 0, .int .u16 7, .int .u16 0, .int .u16 0, .int .i64 0, .int .i64 0, .bool false, .int .i64 0, .slice none 0 0] 41))
  clear hs hr hT hc hE hbw
  go_wp2_with (fail)
  have T := T11.out
  have hs : yV _ _ 7 _ wG2 _ _ _ 2 _ 2 1 _ _ _ _ _ _ _ _ := XJ T (by omega) (by omega) 1 (by decide) 2 0 (by decide) (by omega) ok0 rfl rfl
  clear T
  simp only [yV, yu, zW] at hs
  refine hs.mono ?_
  rintro e v2 ⟨A2, q2, rfl, hr, hT, hc⟩
  have hE := zf (hc.below E11.out) (Nat.le_trans E11.out.size hc.size) (zy (Below.refl _ _) (.cells #[.int .i64 3, .int .i64 0, .slice none 0 0, .slice A2 1 q2, .int .i64 0, .int .i64 0, .int .u16 0, .int .u16 0, .int .u16 0, .int .i64 0, .int .i64 0, .bool false, .int .i64 0, .slice none 0 0] 41))
  have hbw : Below v2.heap.size v2 (v2.alloc (.cells #[.int .i64 3, .int .i64 0, .slice none 0 0, .slice A2 1 q2, .int .i64 0, .int .i64 0, .int .u16 0, .int .u16 0, .int .u16 0, .int .i64 0, .int .i64 0, .bool false, .int .i64 0, .slice none 0 0] 41)) := (Below.refl _ _).alloc (Nat.le_refl _) _
  replace Z0 := hQ (zb (hc.cell Z0.out (by decide)) hbw)
  replace Z1 := hQ (zb (hc.cell Z1.out (by decide)) hbw)
  have T12 := hQ (hT.below hbw)
  have E12 := hQ hE
  have Z2 := hQ (zi v2 (.cells #[.int .i64 3, .int .i64 0, .slice none 0 0, .slice A2 1 q2, .int .i64 0, .int .i64 0, .int .u16 0, .int .u16 0, .int .u16 0, .int .i64 0, .int .i64 0, .bool false, .int .i64 0, .slice none 0 0] 41))
  have R2 := hQ (Kd.zz hr hbw)
  clear hs hr hT hc hE hbw
  go_wp2_with (fail)
  refine (hOrd2 _).mono ?_
  rintro e o3 ⟨rfl, hbw⟩
  have T3_ := hQ (T12.out.below hbw)
  have E3_ := hQ (zf E12.out E12.out.size hbw)
  replace Z0 := hQ (zb Z0.out hbw)
  replace Z1 := hQ (zb Z1.out hbw)
  replace Z2 := hQ (zb Z2.out hbw)
  replace R2 := hQ (Kd.zz R2.out hbw)
  clear hbw
  go_wp2_with (fail)
  have T := T3_.out
  have hs : yV _ _ 10 _ wG3 _ _ _ 2 _ 3 0 _ _ _ _ _ _ _ _ := JK T (by omega) (by omega) 0 (by decide) ok0 rfl 0 [] ⟨⟨2, 2⟩, 7⟩ rfl (.inl rfl) ⟨rfl, by decide, by decide⟩ (by decide) (by decide) rfl
  clear T
  simp only [yV, yu, zW] at hs
  refine hs.mono ?_
  rintro e v3 ⟨A3, q3, rfl, hr, hT, hc⟩
  have hE := zf (hc.below E3_.out) (Nat.le_trans E3_.out.size hc.size) (zy (Below.refl _ _) (.cells #[.int .i64 6, .int .i64 0, .slice none 0 0, .slice A3 0 q3, .int .i64 100, .int .i64 0, .int .u16 2, .int .u16 0, .int .u16 0, .int .i64 0, .int .i64 0, .bool false, .int .i64 0, .slice none 0 0] 41))
  have hbw : Below v3.heap.size v3 (v3.alloc (.cells #[.int .i64 6, .int .i64 0, .slice none 0 0, .slice A3 0 q3, .int .i64 100, .int .i64 0, .int .u16 2, .int .u16 0, .int .u16 0, .int .i64 0, .int .i64 0, .bool false, .int .i64 0, .slice none 0 0] 41)) := (Below.refl _ _).alloc (Nat.le_refl _) _
  replace Z0 := hQ (zb (hc.cell Z0.out (by decide)) hbw)
  replace Z1 := hQ (zb (hc.cell Z1.out (by decide)) hbw)
  replace Z2 := hQ (zb (hc.cell Z2.out (by decide)) hbw)
  replace R2 := hQ (Kd.zz (hc.R R2.out (by decide)) hbw)
  have T13 := hQ (hT.below hbw)
  have E13 := hQ hE
  have Z3 := hQ (zi v3 (.cells #[.int .i64 6, .int .i64 0, .slice none 0 0, .slice A3 0 q3, .int .i64 100, .int .i64 0, .int .u16 2, .int .u16 0, .int .u16 0, .int .i64 0, .int .i64 0, .bool false, .int .i64 0, .slice none 0 0] 41))
  clear hs hr hT hc hE hbw
  go_wp2_with (fail)
  have T := T13.out
  have hs : yV _ _ 11 _ wG3 _ _ _ 2 _ 4 1 _ _ _ _ _ _ _ _ := XJ T (by omega) (by omega) 1 (by decide) 2 7 (by decide) (by omega) ok1 rfl rfl
  clear T
  simp only [yV, yu, zW] at hs
  refine hs.mono ?_
  rintro e v4 ⟨A4, q4, rfl, hr, hT, hc⟩
  have hE := zf (hc.below E13.out) (Nat.le_trans E13.out.size hc.size) (zy (Below.refl _ _) (.cells #[.int .i64 3, .int .i64 0, .slice none 0 0, .slice A4 1 q4, .int .i64 0, .int .i64 0, .int .u16 0, .int .u16 0, .int .u16 0, .int .i64 0, .int .i64 0, .bool false, .int .i64 0, .slice none 0 0] 41))
  have hbw : Below v4.heap.size v4 (v4.alloc (.cells #[.int .i64 3, .int .i64 0, .slice none 0 0, .slice A4 1 q4, .int .i64 0, .int .i64 0, .int .u16 0, .int .u16 0, .int .u16 0, .int .i64 0, .int .i64 0, .bool false, .int .i64 0, .slice none 0 0] 41)) := (Below.refl _ _).alloc (Nat.le_refl _) _
  replace Z0 := hQ (zb (hc.cell Z0.out (by decide)) hbw)
  replace Z1 := hQ (zb (hc.cell Z1.out (by decide)) hbw)
  replace Z2 := hQ (zb (hc.cell Z2.out (by decide)) hbw)
  replace R2 := hQ (Kd.zz (hc.R R2.out (by decide)) hbw)
  replace Z3 := hQ (zb (hc.cell Z3.out (by decide)) hbw)
  have T14 := hQ (hT.below hbw)
  have E14 := hQ hE
  have Z4 := hQ (zi v4 (.cells #[.int .i64 3, .int .i64 0, .slice none 0 0, .slice A4 1 q4, .int .i64 0, .int .i64 0, .int .u16 0, .int .u16 0, .int .u16 0, .int .i64 0, .int .i64 0, .bool false, .int .i64 0, .slice none 0 0] 41))
  have R4 := hQ (Kd.zz hr hbw)
  clear hs hr hT hc hE hbw
  obtain ⟨y0_0, y0_1, y0_2, y0_3, y0_4, y0_5, y0_6, y0_7, y0_8, y0_9, y0_10, y0_11, y0_12, y0_13⟩ := yK Z0.out
  obtain ⟨y1_0, y1_1, y1_2, y1_3, y1_4, y1_5, y1_6, y1_7, y1_8, y1_9, y1_10, y1_11, y1_12, y1_13⟩ := yK Z1.out
  obtain ⟨g2, eA2, gc2⟩ := zcH R2.out
  subst eA2
  obtain ⟨y2_0, y2_1, y2_2, y2_3, y2_4, y2_5, y2_6, y2_7, y2_8, y2_9, y2_10, y2_11, y2_12, y2_13⟩ := yK Z2.out
  obtain ⟨y3_0, y3_1, y3_2, y3_3, y3_4, y3_5, y3_6, y3_7, y3_8, y3_9, y3_10, y3_11, y3_12, y3_13⟩ := yK Z3.out
  obtain ⟨g4, eA4, gc4⟩ := zcH R4.out
  subst eA4
  obtain ⟨y4_0, y4_1, y4_2, y4_3, y4_4, y4_5, y4_6, y4_7, y4_8, y4_9, y4_10, y4_11, y4_12, y4_13⟩ := yK Z4.out
  have Zf := hQ (E14.out)
  go_wp2_with (fail)
  exact bodyPost_ret (v := .bool true) (by simp [results, Tryz.results5, go_sem]) rfl ⟨rfl, zf B2.out B2.out.size Zf.out⟩
end Go.Proofs.YtlalbohhopmpdaaGreat.Top
namespace Go.Proofs.YtlalbohhopmpdaaGreat.PTop
open Go.RowKit Go.YW.PrintWords Go.YW.PrintLast Go.YW.PrintMore
attribute [local go_sem] yN yO xu xw yP yR xm xq zk zo   -- for this text's walks alone
def qo.f (l0 : List Int) (l1 : List Int) (a2 : Int) : Option (Bool) := if (l0.length : Int) > a2 then (some true) else (some (decide ((l1.length : Int) > a2)))
theorem qo.calls (A0 : Option Addr) (c0 : Nat) (l0 : List Int) (A1 : Option Addr) (c1 : Nat) (l1 : List Int) (a2 : Int) (r : Bool) (w : World) (hr0 : Kd.C (Kd.int .i64) w A0 l0.length l0) (hc0 : l0.length ≤ c0) (hr1 : Kd.C (Kd.int .i64) w A1 l1.length l1) (hc1 : l1.length ≤ c1) (h : qo.f l0 l1 a2 = some r) :
  Calls Tryz.prog 11 #[.slice A0 l0.length c0, .slice A1 l1.length c1, .int .i64 a2] w fun e w' => e = .returned (.bool r) ∧ zw w w' := by
 have HR0 := ze.mk hr0
 have HC0 := ze.mk hc0
 clear hr0 hc0
 have HR1 := ze.mk hr1
 have HC1 := ze.mk hc1
 clear hr1 hc1
 have H : (if (l0.length : Int) > a2 then (some true) else (some (decide ((l1.length : Int) > a2)))) = some r := h
 clear h
 by_cases c4 : (l0.length : Int) > a2
 ·
  rw [if_pos c4] at H
  have c4b0 : decide (a2 < (l0.length : Int)) = true := dT c4
  clear c4
  obtain rfl := Option.some.inj H
  go_enter Tryz.func11, Tryz.ntmps11
  go_wp2
  go_ret
  exact ⟨by first | rfl | (simp; done) | (simp [*]; done), by repeat (first | exact zw.refl _ | apply zw.step)⟩
 ·
  rw [if_neg c4] at H
  have c4b0 : decide (a2 < (l0.length : Int)) = false := dF c4
  clear c4
  obtain rfl := Option.some.inj H
  go_enter Tryz.func11, Tryz.ntmps11
  go_wp2
  go_ret
  exact ⟨by first | rfl | (simp; done) | (simp [*]; done), by repeat (first | exact zw.refl _ | apply zw.step)⟩
end Go.Proofs.YtlalbohhopmpdaaGreat.PTop
namespace Go.Proofs.YtlalbohhopmpdaaGreat.Top
open Go.RowKit Go.Proofs.YtlalbohhopmpdaaGreat.PTop Go.YW.PrintWords Go.YW.PrintLast Go.YW.PrintMore Go.Proofs.YtlalbohhopmpdaaGreat.Num
attribute [local go_sem] zk zo
theorem Vx (l0 l1 : List Int) (b : Bool) (h : b = decide ((l0.length : Int) > 12 ∨ (l1.length : Int) > 12)) : qo.f l0 l1 12 = some b := by
  unfold qo.f
  subst h
  split
  · rename_i h
    rw [decide_eq_true (.inl h)]
  · rename_i h
    congr 1
    by_cases h2 : (l1.length : Int) > 12
    · rw [dT h2, decide_eq_true (.inr h2)]
    · rw [dF h2, decide_eq_false (fun h3 => h3.elim h h2)]
theorem QU (w : World) (A0 : Option Addr) (c0 : Nat) (la : List Int) (A1 : Option Addr) (c1 : Nat) (lb : List Int) (f : Bool) (hA : Kd.C (Kd.int .i64) w A0 la.length la) (hB : Kd.C (Kd.int .i64) w A1 lb.length lb) (k0 : la.length ≤ c0) (k1 : lb.length ≤ c1)
    (h : la.length < 1 ∨ lb.length < 1 ∨ 12 < la.length ∨ 12 < lb.length) :
    Calls Tryz.prog 4 #[.slice A0 la.length c0, .slice A1 lb.length c1, .bool f] w fun e w' => e = .returned (.bool true) ∧ Below w.heap.size w w' := by
  by_cases h0 : (la.length : Int) < 1
  · have d0 : decide ((la.length : Int) < 1) = true := dT h0
    go_enter Tryz.func4, Tryz.ntmps4
    go_wp2_with (first | (go_at_call 5; refine (kM _).mono ?_; rintro e w1 ⟨rfl, hb1⟩; have B1 := hQ hb1; clear hb1))
    go_ret
    exact ⟨rfl, B1.out⟩
  · have d0 : decide ((la.length : Int) < 1) = false := dF h0
    by_cases h1 : (lb.length : Int) < 1
    · have d1 : decide ((lb.length : Int) < 1) = true := dT h1
      go_enter Tryz.func4, Tryz.ntmps4
      go_wp2_with (first | (go_at_call 5; refine (kM _).mono ?_; rintro e w1 ⟨rfl, hb1⟩; have B1 := hQ hb1; clear hb1))
      go_ret
      exact ⟨rfl, B1.out⟩
    · have d1 : decide ((lb.length : Int) < 1) = false := dF h1
      have hlg := Vx la lb true (decide_eq_true (show (la.length : Int) > 12 ∨ (lb.length : Int) > 12 by omega)).symm
      have HA := hQ hA
      have HB := hQ hB
      clear h hA hB
      go_enter Tryz.func4, Tryz.ntmps4
      go_wp2_with (first | (go_at_call 11; refine (qo.calls A0 c0 la A1 c1 lb 12 true _ HA.out k0 HB.out k1 hlg).mono ?_; rintro e w1 ⟨rfl, hb1⟩; have B1 := hQ hb1.below; clear hb1) | (go_at_call 5; refine (kM _).mono ?_; rintro e w2 ⟨rfl, hb2⟩; have B2 := hQ (zf B1.out B1.out.size hb2); clear hb2))
      go_ret
      exact ⟨rfl, B2.out⟩
end Go.Proofs.YtlalbohhopmpdaaGreat.Top
namespace Go.Proofs.YtlalbohhopmpdaaGreat.Top
open Go.RowKit Go.Proofs.YtlalbohhopmpdaaGreat.PTop Go.YW.PrintWords Go.YW.PrintLast Go.YW.PrintMore Go.Proofs.YtlalbohhopmpdaaGreat.Num
def xH : List yg → yg → List yg
  | [], x => [x]
  | y :: l, x => if y.f0.f1 < x.f0.f1 then y :: xH l x else if y.f0.f1 = x.f0.f1 then x :: l else x :: y :: l
def lkC : List yg → Int → Option Int
  | [], _ => none
  | y :: l, a => if y.f0.f1 = a then some y.f1 else lkC l a
theorem zaw (l : List yg) (x z : yg) (h : z ∈ xH l x) : z = x ∨ z ∈ l := by
  induction l with
  | nil => exact .inl (List.mem_singleton.1 h)
  | cons y l ih =>
    unfold xH at h
    split at h
    · rcases List.mem_cons.1 h with rfl | h
      · exact .inr List.mem_cons_self
      · rcases ih h with h | h
        · exact .inl h
        · exact .inr (List.mem_cons_of_mem _ h)
    · split at h
      · rcases List.mem_cons.1 h with rfl | h
        · exact .inl rfl
        · exact .inr (List.mem_cons_of_mem _ h)
      · rcases List.mem_cons.1 h with rfl | h
        · exact .inl rfl
        · exact .inr h
theorem zbO {l : List yg} {x : yg} (h : qD l) (hx : qw x) : qD (xH l x) := by
  induction l with
  | nil => exact ⟨fun z hz => by rw [List.mem_singleton.1 hz]; exact hx, List.pairwise_singleton _ _⟩
  | cons y l ih =>
    obtain ⟨h1, h2⟩ := h
    rw [List.pairwise_cons] at h2
    have hy := h1 y List.mem_cons_self
    have hl : qD l := ⟨fun z hz => h1 z (List.mem_cons_of_mem _ hz), h2.2⟩
    unfold xH
    split
    · rename_i hlt
      refine ⟨fun z hz => ?_, List.pairwise_cons.2 ⟨fun z hz => ?_, (ih hl).2⟩⟩
      · rcases List.mem_cons.1 hz with rfl | hz
        · exact hy
        · exact (ih hl).1 z hz
      · rcases zaw l x z hz with rfl | hz
        · exact hlt
        · exact h2.1 z hz
    · split
      · rename_i hn he
        refine ⟨fun z hz => ?_, List.pairwise_cons.2 ⟨fun z hz => ?_, h2.2⟩⟩
        · rcases List.mem_cons.1 hz with rfl | hz
          · exact hx
          · exact hl.1 z hz
        · rw [← he]; exact h2.1 z hz
      · rename_i hn he
        refine ⟨fun z hz => ?_, List.pairwise_cons.2 ⟨fun z hz => ?_, List.pairwise_cons.2 h2⟩⟩
        · rcases List.mem_cons.1 hz with rfl | hz
          · exact hx
          · exact h1 z hz
        · rcases List.mem_cons.1 hz with rfl | hz
          · omega
          · have := h2.1 z hz; omega
theorem Ji (l : List yg) (x : yg) : (xH l x).length ≤ l.length + 1 := by
  induction l with
  | nil => simp [xH]
  | cons y l ih =>
    unfold xH
    split
    · simp only [List.length_cons]; omega
    · split <;> simp only [List.length_cons] <;> omega
theorem zba (l : List yg) (x : yg) : 0 < (xH l x).length := by
  cases l with
  | nil => simp [xH]
  | cons y l =>
    unfold xH
    split
    · simp
    · split <;> simp
theorem zb3 {l : List yg} (h : qD l) (x : yg) (a : Int) : lkC (xH l x) a = if a = x.f0.f1 then some x.f1 else lkC l a := by
  induction l with
  | nil =>
    unfold xH lkC lkC
    by_cases e : x.f0.f1 = a
    · rw [if_pos e, if_pos e.symm]
    · rw [if_neg e, if_neg (fun h => e h.symm)]
  | cons y l ih =>
    have h2 := List.pairwise_cons.1 h.2
    have hl : qD l := ⟨fun z hz => h.1 z (List.mem_cons_of_mem _ hz), h2.2⟩
    unfold xH
    split
    · rename_i hlt
      rw [lkC, ih hl, lkC]
      by_cases e : y.f0.f1 = a
      · rw [if_pos e, if_pos e, if_neg (by omega)]
      · rw [if_neg e, if_neg e]
    · split
      · rename_i hn he
        rw [lkC, lkC]
        by_cases e : x.f0.f1 = a
        · rw [if_pos e, if_pos e.symm]
        · rw [if_neg e, if_neg (fun h => e h.symm), if_neg (by omega)]
      · rw [lkC]
        by_cases e : x.f0.f1 = a
        · rw [if_pos e, if_pos e.symm]
        · rw [if_neg e, if_neg (fun h => e h.symm)]
theorem zbW (l : List yg) (x : yg) (i : Nat) (hi : i ≤ l.length) (h1 : ∀ m (h : m < l.length), m < i → l[m].f0.f1 < x.f0.f1) (h2 : ∀ m (h : m < l.length), i ≤ m → x.f0.f1 ≤ l[m].f0.f1) :
    xH l x = if i < l.length ∧ adr l i = x.f0.f1 then l.set i x else l.take i ++ x :: l.drop i := by
  induction l generalizing i with
  | nil =>
    have : i = 0 := by simpa using hi
    subst this
    rw [if_neg (fun h => by simp at h)]
    rfl
  | cons y l ih =>
    cases i with
    | zero =>
      have hy := h2 0 (by simp) (Nat.le_refl _)
      have hy' : x.f0.f1 ≤ y.f0.f1 := hy
      have ha : adr (y :: l) ((0 : Nat) : Int) = y.f0.f1 := by
        unfold adr
        rw [Zd (y :: l) 0 (by simp)]
        rfl
      unfold xH
      rw [if_neg (by omega), ha]
      by_cases e : y.f0.f1 = x.f0.f1
      · rw [if_pos e, if_pos ⟨by simp, e⟩]
        rfl
      · rw [if_neg e, if_neg (fun h => e h.2)]
        rfl
    | succ i =>
      have hy' : y.f0.f1 < x.f0.f1 := h1 0 (by simp) (Nat.succ_pos _)
      have hi' : i ≤ l.length := by simpa using hi
      have e := ih i hi' (fun m h hm => h1 (m + 1) (by simpa using h) (by omega)) (fun m h hm => h2 (m + 1) (by simpa using h) (by omega))
      unfold xH
      rw [if_pos hy', e]
      by_cases hlt : i < l.length
      · have ha : adr (y :: l) ((i + 1 : Nat) : Int) = adr l i := by
          unfold adr
          rw [Zd (y :: l) (i + 1) (by simpa using hlt), Zd l i hlt]
          rfl
        rw [ha]
        by_cases e2 : adr l i = x.f0.f1
        · rw [if_pos ⟨hlt, e2⟩, if_pos ⟨by simpa using hlt, e2⟩]
          rfl
        · rw [if_neg (fun h => e2 h.2), if_neg (fun h => e2 h.2)]
          rfl
      · rw [if_neg (fun h => hlt h.1), if_neg (fun h => hlt (by simpa using h.1))]
        rfl
theorem KG {l : List yg} {x : yg} {i : Int} (h0 : 0 ≤ i ∧ i ≤ l.length) (hP : AtP l x.f0.f1 i i) :
    xH l x = if i < l.length ∧ adr l i = x.f0.f1 then l.set i.toNat x else l.take i.toNat ++ x :: l.drop i.toNat := by
  obtain ⟨n, rfl⟩ := Int.eq_ofNat_of_zero_le h0.1
  have hn : n ≤ l.length := by omega
  have e := zbW l x n hn (fun m h hm => by
    have := hP.1 m (by omega) (by omega)
    unfold adr at this
    rw [Zd l m h] at this
    exact this) (fun m h hm => by
    have := hP.2 m (by omega) (by omega)
    unfold adr at this
    rw [Zd l m h] at this
    exact this)
  rw [e]
  by_cases c : n < l.length ∧ adr l n = x.f0.f1
  · rw [if_pos c, if_pos ⟨by omega, c.2⟩]
    rfl
  · rw [if_neg c, if_neg (fun h => c ⟨by omega, h.2⟩)]
    rfl
theorem YN {α : Type} (z x : α) (l : List α) (i : Nat) (hi : i ≤ l.length) :
    Kd.laid ((Kd.laid (List.replicate (l.length + 1) z) 0 (min i (l.length + 1)) (l.take i)).set i x) (i + 1) (min (l.length - i) (l.length + 1 - (i + 1))) (l.drop i) = l.take i ++ x :: l.drop i := by
  unfold Kd.laid
  have e1 : min i (l.length + 1) = i := by omega
  have e2 : min (l.length - i) (l.length + 1 - (i + 1)) = l.length - i := by omega
  rw [e1, e2, List.take_zero, List.nil_append, List.take_take, Nat.min_self, Nat.zero_add, List.drop_replicate]
  have hlen : (l.take i).length = i := by rw [List.length_take]; omega
  have e3 : (l.take i ++ List.replicate (l.length + 1 - i) z).set i x = l.take i ++ x :: List.replicate (l.length - i) z := by
    rw [List.set_append_right _ _ (by omega), hlen, Nat.sub_self, show l.length + 1 - i = (l.length - i) + 1 by omega, List.replicate_succ]
    rfl
  rw [e3]
  have e4 : (l.take i ++ x :: List.replicate (l.length - i) z).take (i + 1) = l.take i ++ [x] := by
    rw [List.take_append, hlen, List.take_of_length_le (by omega), show i + 1 - i = 1 by omega]
    rfl
  have e5 : (l.take i ++ x :: List.replicate (l.length - i) z).drop (i + 1 + (l.length - i)) = [] := by
    apply List.drop_eq_nil_of_le
    rw [List.length_append, hlen, List.length_cons, List.length_replicate]
    omega
  have e6 : (l.drop i).take (l.length - i) = l.drop i := List.take_of_length_le (by rw [List.length_drop]; exact Nat.le_refl _)
  rw [e4, e5, e6, List.append_nil, List.append_assoc]
  rfl
end Go.Proofs.YtlalbohhopmpdaaGreat.Top
namespace Go.Proofs.YtlalbohhopmpdaaGreat.Top
open Go.Proofs.YtlalbohhopmpdaaGreat.Tiny
open Go.RowKit Go.Proofs.YtlalbohhopmpdaaGreat.PTop Go.YW.PrintWords Go.YW.PrintLast Go.YW.PrintMore Go.Proofs.YtlalbohhopmpdaaGreat.Num
attribute [local go_sem] zk zo
theorem Yn (A : Option Addr) (f n c : Nat) (h : f ≤ n) (hc : n ≤ c) : ∃ A1 : Option Addr, (0 < n - f → A1 = A.map (·.add (f * 3))) ∧ ∀ (W : World), (Instr.sliceAt 155 (.slice A n c) (some (.int .i64 f)) none none).run Tryz.prog W = .ok (.slice A1 (n - f) (c - f)) W := by
  obtain ⟨i, hi, hz⟩ := Option.map_eq_some_iff.1 vX
  have hs : i.size = 3 := (Prod.mk.inj (Prod.mk.inj hz).2).1
  refine ⟨if c = f then A else A.map (·.add (f * 3)), fun h => if_neg (by omega), fun W => ?_⟩
  have hu := Tryz.underlying155
  by_cases e : c = f
  · cases A <;> simp [Instr.sliceAt, Instr.slice, Instr.sliceBounds, Instr.sliceBound, go_sem, h, e, hi, hs, sizeOf, typeInfo]
  · cases A <;> simp [Instr.sliceAt, Instr.slice, Instr.sliceBounds, Instr.sliceBound, go_sem, h, e, hi, hs, sizeOf, typeInfo]
theorem JA {w : World} {A : Option Addr} {n : Nat} {l : List yg} (h : Kd.C xL w A n l) (f m : Nat) (hm : f + m ≤ n) (B : Option Addr) (hB : 0 < m → B = A.map (·.add (f * 3))) : Kd.C xL w B m ((l.drop f).take m) := by
  have hl : l.length = n := h.1
  refine ⟨by simp; omega, by have := h.2.1; omega, fun hm0 => ?_⟩
  obtain ⟨ad, rfl, hr⟩ := h.2.2 (by omega)
  rw [hB hm0]
  refine ⟨_, rfl, fun j p hp => ?_⟩
  have hj : j < m := by
    have := (List.getElem?_eq_some_iff.1 hp).1
    simp at this
    omega
  rw [List.getElem?_take_of_lt hj, List.getElem?_drop] at hp
  obtain ⟨cs, h1, h2, h3⟩ := hr (f + j) p hp
  refine ⟨cs, h1, h2, fun i u hu => ?_⟩
  have h4 := h3 i u hu
  have e : (f + j) * xL.sz = f * 3 + j * xL.sz := by show (f + j) * 3 = f * 3 + j * 3; omega
  rw [e] at h4
  rw [← h4, Addr.add_add, Nat.add_assoc]
theorem zbK (w : World) (A : Option Addr) (c : Nat) (l : List yg) (x : yg) (hx : x.f0.f0 = 2) (hC : Kd.C xL w A l.length l) (hcap : l.length ≤ c) (ho : qD l) (hl : l.length ≤ 1000) :
    Calls Tryz.prog 249 #[.slice A l.length c, .agg #[.int .i64 x.f0.f0, .int .i64 x.f0.f1, .int .u16 x.f1]] w fun e w' => ∃ A' c', e = .returned (.slice A' (xH l x).length c') ∧ Kd.R xL 208 w' w.heap.size (fun _ => True) (.slice A' (xH l x).length c') (xH l x) ∧ Below w.heap.size w w' := by
  obtain ⟨⟨t, a⟩, v⟩ := x
  dsimp only at hx
  subst hx
  show Calls Tryz.prog 249 #[.slice A l.length c, .agg #[.int .i64 2, .int .i64 a, .int .u16 v]] w _
  have hu155 := Tryz.underlying155
  have hu158 := Tryz.underlying158
  have hu208 := Tryz.underlying208
  have hb0 : Below w.heap.size w (w.alloc (.cells #[.int .i64 2, .int .i64 a, .int .u16 v] 208)) := (Below.refl _ _).alloc (Nat.le_refl _) _
  have B0 := hQ hb0
  have X0 := hQ (zi w (.cells #[.int .i64 2, .int .i64 a, .int .u16 v] 208 (0, 0)))
  have C0 := hQ (Kd.zx hC hb0)
  have CW := hQ hC
  have HO := hQ ho
  have HL := hQ hl
  have HCAP := hQ hcap
  clear hb0 hC ho hl hcap
  go_enter Tryz.func249, Tryz.ntmps249
  go_wp2_with (fail)
  refine (WX _ A c l a C0.out HO.out HL.out).mono ?_
  rintro e w1 ⟨i, hi, hP, rfl, hb⟩
  have B1 := hQ (zf B0.out B0.out.size hb)
  have X1 := hQ (zb X0.out hb)
  have C1 := hQ (Kd.zx C0.out hb)
  have HI := hQ hi
  have HE := hQ (KG (x := ⟨⟨2, a⟩, v⟩) hi hP)
  have x0 : w1.cell? ⟨w.heap.size, 0, none⟩ = some (.int .i64 2) := za X1.out 0
  have x1 : w1.cell? ⟨w.heap.size, 1, none⟩ = some (.int .i64 a) := za X1.out 1
  have x2 : w1.cell? ⟨w.heap.size, 2, none⟩ = some (.int .u16 v) := za X1.out 2
  obtain ⟨n, rfl⟩ := Int.eq_ofNat_of_zero_le hi.1
  have HNL := hQ (show n ≤ l.length by omega)
  clear hb hP hi
  by_cases hf : (n : Int) < (l.length : Int) ∧ adr l n = a
  · have HE2 := hQ (show xH l ⟨⟨2, a⟩, v⟩ = l.set n ⟨⟨2, a⟩, v⟩ by
      have h := HE.out
      rw [if_pos (show (n : Int) < l.length ∧ adr l n = (⟨⟨2, a⟩, v⟩ : yg).f0.f1 from hf)] at h
      exact h)
    have HLT := hQ (show n < l.length by omega)
    rw [dT hf]
    clear hf HE
    go_wp2_with (fail)
    refine (Jz A c l _ C1.out HCAP.out (by have := HL.out; omega)).mono ?_
    rintro e w2 ⟨A3, c3, rfl, hr, hb⟩
    obtain ⟨g, cap, e3, hgb, _, _⟩ := Kd.qm hr (by have := HLT.out; omega)
    obtain ⟨rfl, rfl⟩ : A3 = some ⟨g, 0, none⟩ ∧ c3 = cap := by injection e3 with h1 h2 h3; exact ⟨h1, h3⟩
    have R2 := hQ (Kd.zU hr B1.out.size)
    have B2 := hQ (zf B1.out B1.out.size hb)
    have X2 := hQ (zb X1.out hb)
    have HGB := hQ (Nat.le_trans B1.out.size hgb)
    have y0 : w2.cell? ⟨w.heap.size, 0, none⟩ = some (.int .i64 2) := za X2.out 0
    have y1 : w2.cell? ⟨w.heap.size, 1, none⟩ = some (.int .i64 a) := za X2.out 1
    have y2 : w2.cell? ⟨w.heap.size, 2, none⟩ = some (.int .u16 v) := za X2.out 2
    obtain ⟨⟨o0, o1, o2, p0, p1, p2⟩, hfz, hR6⟩ := Ql R2.out (n : Int) (Int.natCast_nonneg n) (by have := HLT.out; omega) ⟨⟨2, a⟩, v⟩
    simp only [Int.toNat_natCast] at p0 p1 p2 hfz hR6
    have z0 : w2.frozen? ⟨g, n * 3, none⟩ = false := hfz 0
    have z1 : w2.frozen? ⟨g, n * 3 + 1, none⟩ = false := hfz 1
    have z2 : w2.frozen? ⟨g, n * 3 + 2, none⟩ = false := hfz 2
    have R6 := hQ hR6
    have q0 : ((n : Int) < (l.length : Int)) = True := eq_true (by have := HLT.out; omega)
    have q1 : (0 ≤ (n : Int)) = True := eq_true (Int.natCast_nonneg n)
    clear hr hb hgb e3 hfz hR6 x0 x1 x2
    go_wp2
    all_goals
      refine bodyPost_ret (v := .slice (some ⟨g, 0, none⟩) l.length c3) (by simp [results, Tryz.results249, go_sem]) rfl ⟨some ⟨g, 0, none⟩, c3, ?_, ?_, ((B2.out.setCell HGB.out _).setCell HGB.out _).setCell HGB.out _⟩
      · rw [HE2.out, List.length_set]
      · rw [HE2.out, List.length_set]; exact R6.out
  · have HE2 := hQ (show xH l ⟨⟨2, a⟩, v⟩ = l.take n ++ ⟨⟨2, a⟩, v⟩ :: l.drop n by
      have h := HE.out
      rw [if_neg (show ¬ ((n : Int) < l.length ∧ adr l n = (⟨⟨2, a⟩, v⟩ : yg).f0.f1) from hf)] at h
      exact h)
    rw [dF hf]
    clear hf HE
    have hw1 : wrap64 ((l.length : Int) + 1) = (l.length : Int) + 1 := zu (by have := HL.out; omega) (by have := HL.out; omega)
    go_wp2_with (first | ((with_reducible refine zN (N := 27) rfl ?_); go_must (refine Kd.Qr xL (w0 := w) w.heap.size 208 rfl (N := 27) rfl 155 (.tmp 26) (.tmp 26) rfl ((l.length : Int) + 1) ?hx ?hy Tryz.underlying155 (.agg #[(.int .i64 0), (.int .i64 0), (.int .u16 0)]) 24 vX rfl (by decide) (by omega) z208 (ok := fun _ => True) (okp := fun _ => False) (jW _ _ _ z208) (fun _ h => trivial) trivial (by omega) ?hl B1.out B1.out.size ?_; (case hx => first | rfl | simp [go_sem, hw1]); (case hy => first | rfl | simp [go_sem, hw1]); (case hl => have := HL.out; omega); intro v8 w5 ho hb hg hat; rw [show ((l.length : Int) + 1).toNat = l.length + 1 by omega] at ho; obtain ⟨g, cap, e8, hgb, hgl, _⟩ := Kd.qm ho (by simp); rw [List.length_replicate] at e8; subst e8; have R5 := hQ ho; have B5 := hQ hb; have X5 := hQ ((hg.block _ (zF X1.out) (by simp)).trans X1.out); have C5 := hQ (Kd.zx CW.out B5.out); have HGB := hQ hgb; obtain ⟨b, hb1, hb2⟩ := hat; have HG1 := hQ (show w1.heap.size ≤ g by simp [Value.ownBlock] at hb1; omega); clear ho hb hg hb1 hb2 hgb hgl; have hch := Yx A n l.length c (Nat.le_trans HNL.out HCAP.out)) ) | ((with_reducible refine zN (N := 32) rfl ?_); go_must (refine Kd.WQ xL JI (w0 := w) w.heap.size rfl (.tmp 28) (.tmp 31) 155 155 208 rfl Tryz.underlying155 (by kernel_rfl) (g := g) (n := l.length + 1) (c := cap) 0 (l.take n) rfl rfl R5.out ?hm ?hA ?hR B5.out B5.out.size ?_; (case hm => omega); (case hA => intro _; simp); (case hR => have h := JA C5.out 0 n (by have := HNL.out; omega) A (fun _ => by cases A <;> simp [Addr.add]); rw [List.drop_zero] at h; exact h); intro w6 ho hb hg; have X6 := hQ ((hg.block _ (zF X5.out) (by intro e; injection e with e; have := HG1.out; have := zF X1.out; omega)).trans X5.out); have B6 := hQ hb; have v0 : w6.cell? ⟨w.heap.size, 0, none⟩ = some (.int .i64 2) := za X6.out 0; have v1 : w6.cell? ⟨w.heap.size, 1, none⟩ = some (.int .i64 a) := za X6.out 1; have v2 : w6.cell? ⟨w.heap.size, 2, none⟩ = some (.int .u16 v) := za X6.out 2; obtain ⟨⟨o0, o1, o2, p0, p1, p2⟩, hfz, hR6⟩ := Ql ho (n : Int) (Int.natCast_nonneg n) (by have := HNL.out; omega) ⟨⟨2, a⟩, v⟩; simp only [Int.toNat_natCast] at p0 p1 p2 hfz hR6; have z0 : w6.frozen? ⟨g, n * 3, none⟩ = false := hfz 0; have z1 : w6.frozen? ⟨g, n * 3 + 1, none⟩ = false := hfz 1; have z2 : w6.frozen? ⟨g, n * 3 + 2, none⟩ = false := hfz 2; have R8 := hQ hR6; have q0 : ((n : Int) < (l.length : Int) + 1) = True := eq_true (by have := HNL.out; omega); have q1 : (0 ≤ (n : Int)) = True := eq_true (Int.natCast_nonneg n); have B8 := hQ (show Below w.heap.size w (((w6.setCell ⟨g, n * 3, none⟩ (.int .i64 2)).setCell ⟨g, n * 3 + 1, none⟩ (.int .i64 a)).setCell ⟨g, n * 3 + 2, none⟩ (.int .u16 v)) from ((B6.out.setCell HGB.out _).setCell HGB.out _).setCell HGB.out _); clear ho hb hg hfz hR6)))
    generalize ((w6.setCell ⟨g, n * 3, none⟩ (.int .i64 2)).setCell ⟨g, n * 3 + 1, none⟩ (.int .i64 a)).setCell ⟨g, n * 3 + 2, none⟩ (.int .u16 v) = W8 at *
    clear v0 v1 v2 p0 p1 p2 z0 z1 z2 hch
    have R9 := hQ (Kd.zz R8.out (zl (Below.refl _ _)))
    have B9 := hQ (B8.out.trans (zl (Below.refl _ _)))
    have C9 := hQ (Kd.zx CW.out B9.out)
    have hcap9 : l.length + 1 ≤ cap := (Kd.zB R8.out).2.1
    obtain ⟨A3, hA3, hcl0⟩ := Yn (some ⟨g, 0, none⟩) (n + 1) (l.length + 1) cap (Nat.succ_le_succ HNL.out) hcap9
    obtain ⟨A4, hA4, hcl2⟩ := Yn A n l.length c HNL.out HCAP.out
    have hcl : ∀ W : World, (Instr.sliceAt 155 (.slice (some ⟨g, 0, none⟩) (l.length + 1) cap) (some (.int .i64 ((n : Int) + 1))) none none).run Tryz.prog W = .ok (.slice A3 (l.length + 1 - (n + 1)) (cap - (n + 1))) W := hcl0
    have HA3 := hQ hA3
    have HA4 := hQ hA4
    have hw2 : wrap64 ((n : Int) + 1) = (n : Int) + 1 := zu (by have := HL.out; have := HNL.out; omega) (by have := HL.out; have := HNL.out; omega)
    clear hcl0 hA3 hA4 hcap9
    refine sq_ (ds := []) #[false, false, false, false, false, false, false, false] (fun _ => True) trivial (fun hHeld => ?_)
    refine pq_ 0 (some 37) ?_
    refine pq_ 1 (some 38) ?_
    refine pq_ 2 (some 39) ?_
    refine pq_ 3 (some 40) ?_
    refine pq_ 4 (some 41) ?_
    refine pq_ 5 (some 42) ?_
    refine pq_ 6 (some 43) ?_
    refine oq_ 7 (some 44) (fun K hK => ?_)
    refine Kd.jX xL JI (w0 := w) w.heap.size (by rfl) (.tmp 40) (.tmp 43) 155 155 208 rfl Tryz.underlying155 (by kernel_rfl) (g := g) (n := l.length + 1) (c := cap) (n + 1) (l.drop n) rfl rfl R9.out ?hm ?hA ?hR B9.out B9.out.size ?_
    case hm => have := HNL.out; omega
    case hA =>
      intro h
      rw [HA3.out (by omega)]
      simp [Addr.add]
      rfl
    case hR =>
      have h := JA C9.out n (l.length - n) (by have := HNL.out; omega) A4 HA4.out
      rw [List.take_of_length_le (by rw [List.length_drop]; exact Nat.le_refl _)] at h
      exact h
    intro w10 ho hb hg
    have hlt := YN z208 (⟨⟨2, a⟩, v⟩ : yg) l n HNL.out
    rw [show l.length + 1 - (n + 1) = l.length - n by omega] at hlt
    rw [hlt, ← HE2.out] at ho
    have R10 := hQ ho
    have B10 := hQ hb
    have HLEN := hQ (show (xH l ⟨⟨2, a⟩, v⟩).length = l.length + 1 by rw [HE2.out]; have := HNL.out; simp; omega)
    clear ho hb hg hlt
    refine hK.out _ _ trivial (fun hHeld => ?_)
    clear hK K
    refine nq_ ?_
    refine xJ (by kernel_rfl) ?_
    go_wp2
    exact bodyPost_ret (v := .slice (some ⟨g, 0, none⟩) (l.length + 1) cap) (by simp [results, Tryz.results249, go_sem]) rfl ⟨some ⟨g, 0, none⟩, cap, by rw [HLEN.out], by rw [HLEN.out]; exact R10.out, B10.out⟩
end Go.Proofs.YtlalbohhopmpdaaGreat.Top
