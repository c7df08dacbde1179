/- Words and walks for FlowPlays (made of the session's own texts; each part by itself). -/
import Derived.Test.YtakiojmjalbfpaaZFlowPlays11
namespace Go.Proofs.Ytakiojmjalbfpaa.PFlow
open Go.RowKit Go.Proofs.YtakiojmjalbfpaaW.PrintWords Go.Proofs.YtakiojmjalbfpaaW.PrintLast Go.Proofs.YtakiojmjalbfpaaW.PrintMore
attribute [local go_sem] max2_int min2_int max_two min_two max_three min_three max_four min_four plus_setCell_drewN plus_cell_same   -- for this text's walks alone
set_option linter.unusedVariables false
set_option linter.unusedSimpArgs false
def busbarref5_AskBytes.j0 : Nat → List Int → Int → Bool → Int → Int → Int → Int → Int → Int → List Bool → List Int → Int → Int → Int → Int → Option (List Int × Int)
 | 0, _, _, _, _, _, _, _, _, _, _, _, _, _, _, _ => none
 | k + 1, x4, x13, x14, x246000, x246001, x246002, x246003, x246004, x246005, x246006, x246007, x246008, x246009, x246010, x246011 => if x14 = true then ((busbarref5_two.f x4 x246001).bind fun t250 => ((busbarref5_two.f t250 x246002).bind fun t253 => (some (t253, 0)))) else (if x13 = 5 then ((busbarref5_two.f x4 x246001).bind fun t256 => ((busbarref5_two.f t256 (wrap64 ((wrap64 (x246003)) * 65280))).bind fun t259 => (some (t259, 0)))) else (if x13 = 6 then ((busbarref5_two.f x4 x246001).bind fun t262 => ((busbarref5_two.f t262 (wrap64 (x246003))).bind fun t265 => (some (t265, 0)))) else (if x13 = 15 then ((busbarref5_two.f x4 x246001).bind fun t268 => ((busbarref5_two.f t268 x246002).bind fun t271 => ((busbarref1_Bytes.f x246002).bind fun t274 => ((some (([(t274) % 256] : List Int) : List Int)).bind fun y275 => (if t271.length + y275.length < 140737488355328 then ((some (t271 ++ y275 : List Int)).bind fun y278 => ((busbarref1_Pack.f k x246006).bind fun t281 => (if y278.length + t281.length < 140737488355328 then (some ((y278 ++ t281), 0)) else (none)))) else (none)))))) else (if x13 = 16 then ((busbarref5_two.f x4 x246001).bind fun t287 => ((busbarref5_two.f t287 x246002).bind fun t290 => ((some (([(wrap64 (2 * x246002)) % 256] : List Int) : List Int)).bind fun y293 => (if t290.length + y293.length < 140737488355328 then ((busbarref5_words.f k (t290 ++ y293) x246007).bind fun t299 => (some (t299, 0))) else (none))))) else (if x13 = 22 then ((busbarref5_two.f x4 x246001).bind fun t302 => ((busbarref5_two.f t302 (wrap64 (x246004))).bind fun t305 => ((busbarref5_two.f t305 (wrap64 (x246005))).bind fun t308 => (some (t308, 0))))) else (if x13 = 23 then ((busbarref5_two.f x4 x246008).bind fun t311 => ((busbarref5_two.f t311 x246009).bind fun t314 => ((busbarref5_two.f t314 x246001).bind fun t317 => ((busbarref5_two.f t317 x246002).bind fun t320 => ((some (([(wrap64 (2 * x246002)) % 256] : List Int) : List Int)).bind fun y323 => (if t320.length + y323.length < 140737488355328 then ((busbarref5_words.f k (t320 ++ y323) x246007).bind fun t329 => (some (t329, 0))) else (none))))))) else ((some (([14, (x246010) % 256, (x246011) % 256] : List Int) : List Int)).bind fun y332 => (if x4.length + y332.length < 140737488355328 then (some ((x4 ++ y332), 0)) else (none)))))))))
def busbarref5_AskBytes.f (k : Nat) (a0_0 : Int) (a0_1 : Int) (a0_2 : Int) (a0_3 : Int) (a0_4 : Int) (a0_5 : Int) (l0_6 : List Bool) (l0_7 : List Int) (a0_8 : Int) (a0_9 : Int) (a0_10 : Int) (a0_11 : Int) : Option (List Int × Int) := (busbarref5_Right.f k a0_0 a0_1 a0_2 a0_3 a0_4 a0_5 l0_6 l0_7 a0_8 a0_9 a0_10 a0_11).bind fun t246 => (if t246 = true then ((some (([(a0_0) % 256] : List Int) : List Int)).bind fun y247 => (if a0_0 = 1 then (busbarref5_AskBytes.j0 k y247 a0_0 (a0_0 == 1) a0_0 a0_1 a0_2 a0_3 a0_4 a0_5 l0_6 l0_7 a0_8 a0_9 a0_10 a0_11) else (if a0_0 = 2 then (busbarref5_AskBytes.j0 k y247 a0_0 (a0_0 == 2) a0_0 a0_1 a0_2 a0_3 a0_4 a0_5 l0_6 l0_7 a0_8 a0_9 a0_10 a0_11) else (if a0_0 = 3 then (busbarref5_AskBytes.j0 k y247 a0_0 (a0_0 == 3) a0_0 a0_1 a0_2 a0_3 a0_4 a0_5 l0_6 l0_7 a0_8 a0_9 a0_10 a0_11) else (busbarref5_AskBytes.j0 k y247 a0_0 (a0_0 == 4) a0_0 a0_1 a0_2 a0_3 a0_4 a0_5 l0_6 l0_7 a0_8 a0_9 a0_10 a0_11))))) else (some (([] : List Int), 1)))
theorem busbarref5_AskBytes.mono_l : ∀ k, (∀ y0 y1 y2 y3 y4 y5 y6 y7 y8 y9 y10 y11 y12 y13 y14, LeO (busbarref5_AskBytes.j0 k y0 y1 y2 y3 y4 y5 y6 y7 y8 y9 y10 y11 y12 y13 y14) (busbarref5_AskBytes.j0 (k + 1) y0 y1 y2 y3 y4 y5 y6 y7 y8 y9 y10 y11 y12 y13 y14))
 | 0 => fun _ _ _ _ _ _ _ _ _ _ _ _ _ _ _ r h => by simp [busbarref5_AskBytes.j0] at h
 | k + 1 => by
  have ih0 := busbarref5_AskBytes.mono_l k
  ·
   intro y0 y1 y2 y3 y4 y5 y6 y7 y8 y9 y10 y11 y12 y13 y14
   unfold busbarref5_AskBytes.j0
   repeat' first
   | (with_reducible exact ih0 _ _ _ _ _ _ _ _ _ _ _ _ _ _ _)
   | (with_reducible exact busbarref1_Pack.mono _ _)
   | (with_reducible exact busbarref5_Right.mono _ _ _ _ _ _ _ _ _ _ _ _ _)
   | (with_reducible exact busbarref5_words.mono _ _ _)
   | (with_reducible exact LeO.refl _)
   | (with_reducible exact LeO.none _)
   | (with_reducible refine LeO.ite ?_ ?_)
   | (with_reducible refine LeO.bind ?_ (fun _ => ?_))
   | exact ih0 _ _ _ _ _ _ _ _ _ _ _ _ _ _ _
   | exact busbarref1_Pack.mono _ _
   | exact busbarref5_Right.mono _ _ _ _ _ _ _ _ _ _ _ _ _
   | exact busbarref5_words.mono _ _ _
   | exact LeO.none _
   | refine LeO.ite ?_ ?_
   | refine LeO.bind ?_ (fun _ => ?_)
theorem busbarref5_AskBytes.mono : ∀ a0 a1 a2 a3 a4 a5 a6 a7 a8 a9 a10 a11 k, LeO (busbarref5_AskBytes.f k a0 a1 a2 a3 a4 a5 a6 a7 a8 a9 a10 a11) (busbarref5_AskBytes.f (k + 1) a0 a1 a2 a3 a4 a5 a6 a7 a8 a9 a10 a11) := by
 intro a0 a1 a2 a3 a4 a5 a6 a7 a8 a9 a10 a11 k
 have ih0 := busbarref5_AskBytes.mono_l k
 unfold busbarref5_AskBytes.f
 repeat' first
   | (with_reducible exact ih0 _ _ _ _ _ _ _ _ _ _ _ _ _ _ _)
   | (with_reducible exact busbarref1_Pack.mono _ _)
   | (with_reducible exact busbarref5_Right.mono _ _ _ _ _ _ _ _ _ _ _ _ _)
   | (with_reducible exact busbarref5_words.mono _ _ _)
   | (with_reducible exact LeO.refl _)
   | (with_reducible exact LeO.none _)
   | (with_reducible refine LeO.ite ?_ ?_)
   | (with_reducible refine LeO.bind ?_ (fun _ => ?_))
   | exact ih0 _ _ _ _ _ _ _ _ _ _ _ _ _ _ _
   | exact busbarref1_Pack.mono _ _
   | exact busbarref5_Right.mono _ _ _ _ _ _ _ _ _ _ _ _ _
   | exact busbarref5_words.mono _ _ _
   | exact LeO.none _
   | refine LeO.ite ?_ ?_
   | refine LeO.bind ?_ (fun _ => ?_)
def busbarref5_AskBytes.T9 : Bool × List (List Nat × List Nat) := (true, [([], []), ([], []), ([1], [1]), ([0, 2], [0, 2]), ([], []), ([4], [4]), ([3, 5, 3], [3, 5]), ([6, 6, 0, 1, 2, 3, 4, 5, 6], [6]), ([7, 0, 1, 2, 3, 4, 5, 6, 7], [])])
def busbarref5_AskBytes.B9 : List Nat := [0, 0, 2, 7, 0, 16, 63, 127, 255]
theorem busbarref5_AskBytes.tab9 : rtab .any (opsOf Try.f28 9) = busbarref5_AskBytes.T9 := by kernel_rfl
theorem busbarref5_AskBytes.bits9 : waitsOk busbarref5_AskBytes.T9.2 busbarref5_AskBytes.B9 = true := by kernel_rfl
def busbarref5_AskBytes.T11 : Bool × List (List Nat × List Nat) := (true, [([], []), ([], []), ([1], [1]), ([0, 2], [0, 2]), ([], []), ([4], [4]), ([5], [5]), ([6], [6]), ([3, 7, 3], [3, 7]), ([8, 8, 0, 1, 2, 3, 4, 5, 6, 7, 8], [8]), ([9, 0, 1, 2, 3, 4, 5, 6, 7, 8, 9], [])])
def busbarref5_AskBytes.B11 : List Nat := [0, 0, 2, 7, 0, 16, 48, 112, 255, 511, 1023]
theorem busbarref5_AskBytes.tab11 : rtab .any (opsOf Try.f28 11) = busbarref5_AskBytes.T11 := by kernel_rfl
theorem busbarref5_AskBytes.bits11 : waitsOk busbarref5_AskBytes.T11.2 busbarref5_AskBytes.B11 = true := by kernel_rfl
def busbarref5_AskBytes.T13 : Bool × List (List Nat × List Nat) := (true, [([], []), ([], []), ([1], [1]), ([0, 2], [0, 2]), ([], []), ([4], [4]), ([5], [5]), ([3, 6, 3], [3, 6]), ([7, 7, 0, 1, 2, 3, 4, 5, 6, 7], [7]), ([8, 0, 1, 2, 3, 4, 5, 6, 7, 8], [])])
def busbarref5_AskBytes.B13 : List Nat := [0, 0, 2, 7, 0, 16, 48, 127, 255, 511]
theorem busbarref5_AskBytes.tab13 : rtab .any (opsOf Try.f28 13) = busbarref5_AskBytes.T13 := by kernel_rfl
theorem busbarref5_AskBytes.bits13 : waitsOk busbarref5_AskBytes.T13.2 busbarref5_AskBytes.B13 = true := by kernel_rfl
def busbarref5_AskBytes.T15 : Bool × List (List Nat × List Nat) := (true, [([], []), ([], []), ([1], [1]), ([0, 2], [0, 2]), ([], []), ([4], [4]), ([3, 5, 3], [3, 5]), ([], []), ([7], [7]), ([8, 6], [8]), ([9], [9]), ([10], [10]), ([6, 11, 9], [6, 11]), ([12, 12, 0, 1, 2, 3, 4, 5, 6, 7, 8, 9, 10, 11, 12], [0, 12])])
def busbarref5_AskBytes.B15 : List Nat := [0, 0, 2, 7, 0, 16, 63, 0, 128, 511, 1023, 2047, 4095, 8191]
theorem busbarref5_AskBytes.tab15 : rtab .any (opsOf Try.f28 15) = busbarref5_AskBytes.T15 := by kernel_rfl
theorem busbarref5_AskBytes.bits15 : waitsOk busbarref5_AskBytes.T15.2 busbarref5_AskBytes.B15 = true := by kernel_rfl
def busbarref5_AskBytes.T18 : Bool × List (List Nat × List Nat) := (true, [([], []), ([], []), ([1], [1]), ([0, 2], [0, 2]), ([], []), ([4], [4]), ([3, 5, 3], [3, 5]), ([], []), ([7], [7]), ([8], [8]), ([9], [9]), ([10], [10]), ([6, 11, 6], [6, 11]), ([], []), ([13], [13]), ([12, 14, 12], [12, 14]), ([15, 15, 0, 1, 2, 3, 4, 5, 6, 7, 8, 9, 10, 11, 12, 13, 14, 15], [15]), ([16, 0, 1, 2, 3, 4, 5, 6, 7, 8, 9, 10, 11, 12, 13, 14, 15, 16], [])])
def busbarref5_AskBytes.B18 : List Nat := [0, 0, 2, 7, 0, 16, 63, 0, 128, 384, 896, 1920, 4095, 0, 8192, 32767, 65535, 131071]
theorem busbarref5_AskBytes.tab18 : rtab .any (opsOf Try.f28 18) = busbarref5_AskBytes.T18 := by kernel_rfl
theorem busbarref5_AskBytes.bits18 : waitsOk busbarref5_AskBytes.T18.2 busbarref5_AskBytes.B18 = true := by kernel_rfl
def busbarref5_AskBytes.T20 : Bool × List (List Nat × List Nat) := (true, [([], []), ([], []), ([1], [1]), ([0, 2], [0, 2]), ([], []), ([4], [4]), ([5], [5]), ([3, 6, 3], [3, 6]), ([], []), ([8], [8]), ([9], [9]), ([7, 10, 7], [7, 10]), ([11, 11, 0, 1, 2, 3, 4, 5, 6, 7, 8, 9, 10, 11], [11]), ([12, 0, 1, 2, 3, 4, 5, 6, 7, 8, 9, 10, 11, 12], [])])
def busbarref5_AskBytes.B20 : List Nat := [0, 0, 2, 7, 0, 16, 48, 127, 0, 256, 768, 2047, 4095, 8191]
theorem busbarref5_AskBytes.tab20 : rtab .any (opsOf Try.f28 20) = busbarref5_AskBytes.T20 := by kernel_rfl
theorem busbarref5_AskBytes.bits20 : waitsOk busbarref5_AskBytes.T20.2 busbarref5_AskBytes.B20 = true := by kernel_rfl
def busbarref5_AskBytes.T22 : Bool × List (List Nat × List Nat) := (true, [([], []), ([], []), ([1], [1]), ([0, 2], [0, 2]), ([], []), ([4], [4]), ([3, 5, 3], [3, 5]), ([], []), ([7], [7]), ([6, 8, 6], [6, 8]), ([], []), ([10], [10]), ([9, 11, 9], [9, 11]), ([12, 12, 0, 1, 2, 3, 4, 5, 6, 7, 8, 9, 10, 11, 12], [0, 12])])
def busbarref5_AskBytes.B22 : List Nat := [0, 0, 2, 7, 0, 16, 63, 0, 128, 511, 0, 1024, 4095, 8191]
theorem busbarref5_AskBytes.tab22 : rtab .any (opsOf Try.f28 22) = busbarref5_AskBytes.T22 := by kernel_rfl
theorem busbarref5_AskBytes.bits22 : waitsOk busbarref5_AskBytes.T22.2 busbarref5_AskBytes.B22 = true := by kernel_rfl
def busbarref5_AskBytes.T23 : Bool × List (List Nat × List Nat) := (true, [([], []), ([], []), ([1], [1]), ([2], [2]), ([3], [3]), ([4], [4]), ([0, 5], [0, 5]), ([], []), ([7], [7]), ([6, 8, 6], [6, 8]), ([9, 9, 0, 1, 2, 3, 4, 5, 6, 7, 8, 9], [9]), ([10, 0, 1, 2, 3, 4, 5, 6, 7, 8, 9, 10], [])])
def busbarref5_AskBytes.B23 : List Nat := [0, 0, 2, 6, 14, 30, 63, 0, 128, 511, 1023, 2047]
theorem busbarref5_AskBytes.tab23 : rtab .any (opsOf Try.f28 23) = busbarref5_AskBytes.T23 := by kernel_rfl
theorem busbarref5_AskBytes.bits23 : waitsOk busbarref5_AskBytes.T23.2 busbarref5_AskBytes.B23 = true := by kernel_rfl
set_option maxHeartbeats 8000000 in
set_option maxRecDepth 100000 in
theorem busbarref5_AskBytes.calls (k : Nat) (a0_0 : Int) (a0_1 : Int) (a0_2 : Int) (a0_3 : Int) (a0_4 : Int) (a0_5 : Int) (A0_6 : Option Addr) (c0_6 : Nat) (l0_6 : List Bool) (A0_7 : Option Addr) (c0_7 : Nat) (l0_7 : List Int) (a0_8 : Int) (a0_9 : Int) (a0_10 : Int) (a0_11 : Int) (r1 : List Int) (r2 : Int) (w : World) (hr0_6 : Kd.C Kd.bool w A0_6 l0_6.length l0_6) (hc0_6 : l0_6.length ≤ c0_6) (hr0_7 : Kd.C (Kd.int .u16) w A0_7 l0_7.length l0_7) (hc0_7 : l0_7.length ≤ c0_7) (h : busbarref5_AskBytes.f k a0_0 a0_1 a0_2 a0_3 a0_4 a0_5 l0_6 l0_7 a0_8 a0_9 a0_10 a0_11 = some (r1, r2)) :
  Calls Try.prog 28 #[.agg #[.int .i64 a0_0, .int .i64 a0_1, .int .i64 a0_2, .int .u16 a0_3, .int .u16 a0_4, .int .u16 a0_5, .slice A0_6 l0_6.length c0_6, .slice A0_7 l0_7.length c0_7, .int .i64 a0_8, .int .i64 a0_9, .int .i64 a0_10, .int .i64 a0_11]] w fun e w' => ∃ v0_ : Value, e = .returned (.tuple #[v0_, .int .i64 r2]) ∧ Kd.V (Kd.int .u8) 5 w' w.heap.size (fun k_ => (w.heap.size ≤ k_)) v0_ r1 ∧ Below w.heap.size w w' := by
 have hu49 := Try.underlying49
 have HR0_6 := Aside0.mk hr0_6
 have HC0_6 := Aside0.mk hc0_6
 clear hr0_6 hc0_6
 have HR0_7 := Aside0.mk hr0_7
 have HC0_7 := Aside0.mk hc0_7
 clear hr0_7 hc0_7
 have HB := Aside0.mk (Below.refl w.heap.size w)
 have H : ((busbarref5_Right.f k a0_0 a0_1 a0_2 a0_3 a0_4 a0_5 l0_6 l0_7 a0_8 a0_9 a0_10 a0_11).bind fun t246 => (if t246 = true then ((some (([(a0_0) % 256] : List Int) : List Int)).bind fun y247 => (if a0_0 = 1 then (busbarref5_AskBytes.j0 k y247 a0_0 (a0_0 == 1) a0_0 a0_1 a0_2 a0_3 a0_4 a0_5 l0_6 l0_7 a0_8 a0_9 a0_10 a0_11) else (if a0_0 = 2 then (busbarref5_AskBytes.j0 k y247 a0_0 (a0_0 == 2) a0_0 a0_1 a0_2 a0_3 a0_4 a0_5 l0_6 l0_7 a0_8 a0_9 a0_10 a0_11) else (if a0_0 = 3 then (busbarref5_AskBytes.j0 k y247 a0_0 (a0_0 == 3) a0_0 a0_1 a0_2 a0_3 a0_4 a0_5 l0_6 l0_7 a0_8 a0_9 a0_10 a0_11) else (busbarref5_AskBytes.j0 k y247 a0_0 (a0_0 == 4) a0_0 a0_1 a0_2 a0_3 a0_4 a0_5 l0_6 l0_7 a0_8 a0_9 a0_10 a0_11))))) else (some (([] : List Int), 1)))) = some (r1, r2) := h
 clear h
 replace H := Option.bind_eq_some_iff.mp H
 obtain ⟨t246, A20, H⟩ := H
 have A2 := Aside0.mk A20
 clear A20
 by_cases c3 : t246 = true
 ·
  subst c3
  have H1 : ((some (([(a0_0) % 256] : List Int) : List Int)).bind fun y247 => (if a0_0 = 1 then (busbarref5_AskBytes.j0 k y247 a0_0 (a0_0 == 1) a0_0 a0_1 a0_2 a0_3 a0_4 a0_5 l0_6 l0_7 a0_8 a0_9 a0_10 a0_11) else (if a0_0 = 2 then (busbarref5_AskBytes.j0 k y247 a0_0 (a0_0 == 2) a0_0 a0_1 a0_2 a0_3 a0_4 a0_5 l0_6 l0_7 a0_8 a0_9 a0_10 a0_11) else (if a0_0 = 3 then (busbarref5_AskBytes.j0 k y247 a0_0 (a0_0 == 3) a0_0 a0_1 a0_2 a0_3 a0_4 a0_5 l0_6 l0_7 a0_8 a0_9 a0_10 a0_11) else (busbarref5_AskBytes.j0 k y247 a0_0 (a0_0 == 4) a0_0 a0_1 a0_2 a0_3 a0_4 a0_5 l0_6 l0_7 a0_8 a0_9 a0_10 a0_11))))) = some (r1, r2) := by rw [if_pos rfl] at H; exact H
  clear H
  have H := H1
  clear H1
  obtain ⟨y247, hy247⟩ : ∃ y_ : List Int, y_ = (([(a0_0) % 256] : List Int)) := ⟨_, rfl⟩
  replace H : (if a0_0 = 1 then (busbarref5_AskBytes.j0 k y247 a0_0 (a0_0 == 1) a0_0 a0_1 a0_2 a0_3 a0_4 a0_5 l0_6 l0_7 a0_8 a0_9 a0_10 a0_11) else (if a0_0 = 2 then (busbarref5_AskBytes.j0 k y247 a0_0 (a0_0 == 2) a0_0 a0_1 a0_2 a0_3 a0_4 a0_5 l0_6 l0_7 a0_8 a0_9 a0_10 a0_11) else (if a0_0 = 3 then (busbarref5_AskBytes.j0 k y247 a0_0 (a0_0 == 3) a0_0 a0_1 a0_2 a0_3 a0_4 a0_5 l0_6 l0_7 a0_8 a0_9 a0_10 a0_11) else (busbarref5_AskBytes.j0 k y247 a0_0 (a0_0 == 4) a0_0 a0_1 a0_2 a0_3 a0_4 a0_5 l0_6 l0_7 a0_8 a0_9 a0_10 a0_11)))) = some (r1, r2) := by first | (rw [hy247]; with_reducible exact H) | (have H2_ := (Option.bind_some _ _).symm.trans H; rw [hy247]; with_reducible exact H2_) | (have H2_ := (Option.bind_some _ _).symm.trans H; with_reducible exact H2_) | with_reducible exact H | (rw [hy247]; exact H) | exact H
  have Ny247 := Aside0.mk hy247
  clear hy247
  have HC4 := Aside0.mk H
  clear H
  go_enter Try.func28, Try.ntmps28
  go_upto_if 14 with (first | ((with_reducible refine gate_dst (N := 1) rfl ?_); refine box_event ?hg (N := 1) ?hd (cs := #[.int .i64 a0_0, .int .i64 a0_1, .int .i64 a0_2, .int .u16 a0_3, .int .u16 a0_4, .int .u16 a0_5, .slice A0_6 l0_6.length c0_6, .slice A0_7 l0_7.length c0_7, .int .i64 a0_8, .int .i64 a0_9, .int .i64 a0_10, .int .i64 a0_11]) (t := 49) ?hr ?_; (case hd => rfl); (case hg => rfl); (case hr => first | (go_simp; done) | (go_simp; rfl)); intro gb245 hg w5 hbox hb; have BK245 := Aside0.mk (hbox); have GW245 := Aside0.mk ((by rw [hg]; exact (below_size (HB.out)) : w.heap.size ≤ gb245)); have GE245 := Aside0.mk ((by rw [hg]; exact (below_size (HB.out)) : w.heap.size ≤ gb245)); replace HB := Aside0.mk (below_step (HB.out) hb); clear hb hbox hg; obtain ⟨hcz6_0, hcz6_1, hcz6_2, hcz6_3, hcz6_4, hcz6_5, hcz6_6, hcz6_7, hcz6_8, hcz6_9, hcz6_10, hcz6_11⟩ := blkc12 BK245.out; obtain ⟨hfz6_0, hfz6_1, hfz6_2, hfz6_3, hfz6_4, hfz6_5, hfz6_6, hfz6_7, hfz6_8, hfz6_9, hfz6_10, hfz6_11⟩ := blkf12 BK245.out) | ((with_reducible refine gate_callee (f := 45) rfl ?_); refine goesL_ (some 6) rfl rfl Try.func45 (by kernel_rfl) rfl #[.agg #[.int .i64 a0_0, .int .i64 a0_1, .int .i64 a0_2, .int .u16 a0_3, .int .u16 a0_4, .int .u16 a0_5, .slice A0_6 l0_6.length c0_6, .slice A0_7 l0_7.length c0_7, .int .i64 a0_8, .int .i64 a0_9, .int .i64 a0_10, .int .i64 a0_11]] rfl (by (try simp only [List.map_toArray, List.map_cons, List.map_nil]); first | done | rfl | (simp only [List.length_drop, List.length_take]; rfl)) ?_; (with_reducible refine (busbarref5_Right.calls k a0_0 a0_1 a0_2 a0_3 a0_4 a0_5 _ _ l0_6 _ _ l0_7 a0_8 a0_9 a0_10 a0_11 true _ ?side1 ?side2 ?side3 ?side4 A2.out).mono ?_); (case side1 => repeat (first | exact (Kd.C_below HR0_6.out HB.out) | (with_reducible refine Kd.C_alloc ?_ _) | (with_reducible refine Kd.C_drewN ?_ _) | (with_reducible refine Kd.C_drew ?_))); (case side2 => exact HC0_6.out); (case side3 => repeat (first | exact (Kd.C_below HR0_7.out HB.out) | (with_reducible refine Kd.C_alloc ?_ _) | (with_reducible refine Kd.C_drewN ?_ _) | (with_reducible refine Kd.C_drew ?_))); (case side4 => exact HC0_7.out); rintro e w7 ⟨rfl, hb⟩; refine ⟨_, rfl, ?_⟩; replace BK245 := Aside0.mk (blk_below BK245.out hb); replace HB := Aside0.mk (below_step (HB.out) hb); (try clear hb); obtain ⟨hcz8_0, hcz8_1, hcz8_2, hcz8_3, hcz8_4, hcz8_5, hcz8_6, hcz8_7, hcz8_8, hcz8_9, hcz8_10, hcz8_11⟩ := blkc12 BK245.out; obtain ⟨hfz8_0, hfz8_1, hfz8_2, hfz8_3, hfz8_4, hfz8_5, hfz8_6, hfz8_7, hfz8_8, hfz8_9, hfz8_10, hfz8_11⟩ := blkf12 BK245.out) | ((with_reducible refine gate_dst (N := 11) rfl ?_); refine Kd.R_lit (Kd.int .u8) _ 5 ?hg (N := 11) ?hd (xs := ([(a0_0) % 256] : List Int)) (inner := [.int .u8 ((a0_0) % 256)]) (ok := fun _ => True) (okp := fun _ => True) ?hr ?hp (fun _ hk => hk) trivial (Below.refl _ _) (Nat.le_refl _) (by simp) ?_; (case hd => rfl); (case hg => rfl); (case hr => first | (go_simp; done) | (go_simp; rfl)); (case hp => exact (Reps.one (show Kd.M (Kd.int .u8) _ _ _ ((a0_0) % 256) [.int .u8 ((a0_0) % 256)] from rfl) (Reps.none _ _))); intro v248 w9 ho10 hb hg_ hnew_; clear hg_ hnew_; (first | rw [← Ny247.out] at ho10 | (simp only [Int.reduceToNat] at ho10; rw [← Ny247.out] at ho10)); have HO249 := Aside0.mk (Kd.R_lower (Kd.R_newM (M := fun k_ => (w.heap.size ≤ k_)) ho10 (below_size (HB.out)) (fun k_ h_ => h_)) (below_size (HB.out))); replace BK245 := Aside0.mk (blk_below BK245.out hb); replace HB := Aside0.mk (below_step (HB.out) hb); clear hb ho10; obtain ⟨hcz11_0, hcz11_1, hcz11_2, hcz11_3, hcz11_4, hcz11_5, hcz11_6, hcz11_7, hcz11_8, hcz11_9, hcz11_10, hcz11_11⟩ := blkc12 BK245.out; obtain ⟨hfz11_0, hfz11_1, hfz11_2, hfz11_3, hfz11_4, hfz11_5, hfz11_6, hfz11_7, hfz11_8, hfz11_9, hfz11_10, hfz11_11⟩ := blkf12 BK245.out))
  (try simp only [Act.put, List.setIfInBounds_toArray, List.set_cons_zero, List.set_cons_succ])
  go_cut [14] (fun v14 wc => ∃ (kq : Nat) (x14_3 : Bool), v14 = .bool x14_3 ∧ Aside0 (busbarref5_AskBytes.j0 kq y247 a0_0 x14_3 a0_0 a0_1 a0_2 a0_3 a0_4 a0_5 l0_6 l0_7 a0_8 a0_9 a0_10 a0_11 = some (r1, r2)) ∧ Aside0 (kq ≤ k) ∧ Aside0 (Kd.R (Kd.int .u8) 5 wc w.heap.size (fun k_ => (w.heap.size ≤ k_)) v248 y247) ∧ Aside0 (wc.heap[gb245]? = some (.cells #[.int .i64 a0_0, .int .i64 a0_1, .int .i64 a0_2, .int .u16 a0_3, .int .u16 a0_4, .int .u16 a0_5, (.slice A0_6 l0_6.length c0_6), (.slice A0_7 l0_7.length c0_7), .int .i64 a0_8, .int .i64 a0_9, .int .i64 a0_10, .int .i64 a0_11] 49 (0, 0))) ∧ Aside0 (Below w.heap.size w wc))
  case first =>
   have H := HC4.out
   clear HC4
   by_cases c12 : a0_0 = 1
   ·
    rw [if_pos c12] at H
    have c12b0 : (a0_0 == 1) = true := beq_iff_eq.mpr c12
    have c12b1 : (a0_0 != 1) = false := bne_eq_false_iff_eq.mpr c12
    clear c12
    (first | rw [c12b0] | (simp only [i64_w, i32_w]; rw [c12b0]) | skip)
    have H' := Aside0.mk H
    clear H
    go_wp2
    go_meet
    case rel => exact ⟨_, ((a0_0 == 1)), (by first | rfl | (simp; done) | (simp [*]; done)), H', ⟨by first | omega | exact Nat.le_refl _⟩, ⟨Kd.R_mono HO249.out (fun _ hk => by first | exact hk.1 | exact hk)⟩, ⟨BK245.out⟩, ⟨HB.out⟩⟩
   ·
    rw [if_neg c12] at H
    have c12b0 : (a0_0 == 1) = false := beq_eq_false_iff_ne.mpr c12
    have c12b1 : (a0_0 != 1) = true := bne_iff_ne.mpr c12
    (first | rw [c12b0] | (simp only [i64_w, i32_w]; rw [c12b0]) | skip)
    by_cases c13 : a0_0 = 2
    ·
     rw [if_pos c13] at H
     have c13b0 : (a0_0 == 2) = true := beq_iff_eq.mpr c13
     have c13b1 : (a0_0 != 2) = false := bne_eq_false_iff_eq.mpr c13
     clear c13
     have H' := Aside0.mk H
     clear H
     go_wp2
     go_meet
     case rel => exact ⟨_, ((a0_0 == 2)), (by first | rfl | (simp; done) | (simp [*]; done)), H', ⟨by first | omega | exact Nat.le_refl _⟩, ⟨Kd.R_mono HO249.out (fun _ hk => by first | exact hk.1 | exact hk)⟩, ⟨BK245.out⟩, ⟨HB.out⟩⟩
    ·
     rw [if_neg c13] at H
     have c13b0 : (a0_0 == 2) = false := beq_eq_false_iff_ne.mpr c13
     have c13b1 : (a0_0 != 2) = true := bne_iff_ne.mpr c13
     by_cases c14 : a0_0 = 3
     ·
      rw [if_pos c14] at H
      have c14b0 : (a0_0 == 3) = true := beq_iff_eq.mpr c14
      have c14b1 : (a0_0 != 3) = false := bne_eq_false_iff_eq.mpr c14
      clear c14
      have H' := Aside0.mk H
      clear H
      go_wp2
      go_meet
      case rel => exact ⟨_, ((a0_0 == 3)), (by first | rfl | (simp; done) | (simp [*]; done)), H', ⟨by first | omega | exact Nat.le_refl _⟩, ⟨Kd.R_mono HO249.out (fun _ hk => by first | exact hk.1 | exact hk)⟩, ⟨BK245.out⟩, ⟨HB.out⟩⟩
     ·
      rw [if_neg c14] at H
      have c14b0 : (a0_0 == 3) = false := beq_eq_false_iff_ne.mpr c14
      have c14b1 : (a0_0 != 3) = true := bne_iff_ne.mpr c14
      have H' := Aside0.mk H
      clear H
      go_wp2
      go_meet
      case rel => exact ⟨_, ((a0_0 == 4)), (by first | rfl | (simp; done) | (simp [*]; done)), H', ⟨by first | omega | exact Nat.le_refl _⟩, ⟨Kd.R_mono HO249.out (fun _ hk => by first | exact hk.1 | exact hk)⟩, ⟨BK245.out⟩, ⟨HB.out⟩⟩
  case rest =>
   clear HC4
   (try clear hcz11_0); (try clear hcz11_1); (try clear hcz11_10); (try clear hcz11_11); (try clear hcz11_2); (try clear hcz11_3); (try clear hcz11_4); (try clear hcz11_5); (try clear hcz11_6); (try clear hcz11_7); (try clear hcz11_8); (try clear hcz11_9); (try clear hcz6_0); (try clear hcz6_1); (try clear hcz6_10); (try clear hcz6_11); (try clear hcz6_2); (try clear hcz6_3); (try clear hcz6_4); (try clear hcz6_5); (try clear hcz6_6); (try clear hcz6_7); (try clear hcz6_8); (try clear hcz6_9); (try clear hcz8_0); (try clear hcz8_1); (try clear hcz8_10); (try clear hcz8_11); (try clear hcz8_2); (try clear hcz8_3); (try clear hcz8_4); (try clear hcz8_5); (try clear hcz8_6); (try clear hcz8_7); (try clear hcz8_8); (try clear hcz8_9); (try clear hfz11_0); (try clear hfz11_1); (try clear hfz11_10); (try clear hfz11_11); (try clear hfz11_2); (try clear hfz11_3); (try clear hfz11_4); (try clear hfz11_5); (try clear hfz11_6); (try clear hfz11_7); (try clear hfz11_8); (try clear hfz11_9); (try clear hfz6_0); (try clear hfz6_1); (try clear hfz6_10); (try clear hfz6_11); (try clear hfz6_2); (try clear hfz6_3); (try clear hfz6_4); (try clear hfz6_5); (try clear hfz6_6); (try clear hfz6_7); (try clear hfz6_8); (try clear hfz6_9); (try clear hfz8_0); (try clear hfz8_1); (try clear hfz8_10); (try clear hfz8_11); (try clear hfz8_2); (try clear hfz8_3); (try clear hfz8_4); (try clear hfz8_5); (try clear hfz8_6); (try clear hfz8_7); (try clear hfz8_8); (try clear hfz8_9)
   obtain ⟨kq, x14_3, rfl, HA, HJ3, HO_4, BK245, HB⟩ := hcut
   cases kq with
   | zero => exact absurd HA.out (by simp [busbarref5_AskBytes.j0])
   | succ kj3 =>
    have H := HA.out
    clear HA
    simp only [busbarref5_AskBytes.j0] at H
    by_cases c15 : x14_3 = true
    ·
     subst c15
     have H1 : ((busbarref5_two.f y247 a0_1).bind fun t250 => ((busbarref5_two.f t250 a0_2).bind fun t253 => (some (t253, 0)))) = some (r1, r2) := by rw [if_pos rfl] at H; exact H
     clear H
     have H := H1
     clear H1
     replace H := Option.bind_eq_some_iff.mp H
     obtain ⟨t250, A160, H⟩ := H
     have A16 := Aside0.mk A160
     clear A160
     replace H := Option.bind_eq_some_iff.mp H
     obtain ⟨t253, A170, H⟩ := H
     have A17 := Aside0.mk A170
     clear A170
     simp only [Option.some.injEq, Prod.mk.injEq] at H
     obtain ⟨rfl, rfl⟩ := H
     try go_wp2
     have n0_ := Aside0.mk (Kd.R_drew HO_4.out)
     have n1_ := Aside0.mk (blk_drew BK245.out)
     have n2_ := Aside0.mk (below_drew1 HB.out)
     clear HO_4
     clear BK245
     clear HB
     have HO_4 := n0_
     have BK245 := n1_
     have HB := n2_
     clear n0_ n1_ n2_
     obtain ⟨Ao19, co19, eo19⟩ := Kd.R_slice HO_4.out
     (first | subst eo19 | (injection eo19 with f1_ f2_ f3_; have f4_ := f1_.symm; have f5_ := f3_.symm; clear f1_ f2_ f3_; subst f4_; subst f5_))
     refine start_ (n := 9) (S := fun w' => w'.cell? ⟨gb245, 0, none⟩ = some (.int .i64 a0_0) ∧ w'.cell? ⟨gb245, 1, none⟩ = some (.int .i64 a0_1) ∧ w'.cell? ⟨gb245, 2, none⟩ = some (.int .i64 a0_2) ∧ w'.cell? ⟨gb245, 3, none⟩ = some (.int .u16 a0_3) ∧ w'.cell? ⟨gb245, 4, none⟩ = some (.int .u16 a0_4) ∧ w'.cell? ⟨gb245, 5, none⟩ = some (.int .u16 a0_5) ∧ w'.cell? ⟨gb245, 6, none⟩ = some (.slice A0_6 l0_6.length c0_6) ∧ w'.cell? ⟨gb245, 7, none⟩ = some (.slice A0_7 l0_7.length c0_7) ∧ w'.cell? ⟨gb245, 8, none⟩ = some (.int .i64 a0_8) ∧ w'.cell? ⟨gb245, 9, none⟩ = some (.int .i64 a0_9) ∧ w'.cell? ⟨gb245, 10, none⟩ = some (.int .i64 a0_10) ∧ w'.cell? ⟨gb245, 11, none⟩ = some (.int .i64 a0_11)) (ds := []) #[false,false,false,false,false,false,false,false,false] (by kernel_rfl) rfl rfl ⟨(blk_cell BK245.out 0).trans rfl, (blk_cell BK245.out 1).trans rfl, (blk_cell BK245.out 2).trans rfl, (blk_cell BK245.out 3).trans rfl, (blk_cell BK245.out 4).trans rfl, (blk_cell BK245.out 5).trans rfl, (blk_cell BK245.out 6).trans rfl, (blk_cell BK245.out 7).trans rfl, (blk_cell BK245.out 8).trans rfl, (blk_cell BK245.out 9).trans rfl, (blk_cell BK245.out 10).trans rfl, (blk_cell BK245.out 11).trans rfl⟩ (fun hHeld => ?_); refine with_tabW busbarref5_AskBytes.tab9 busbarref5_AskBytes.bits9 (fun HT_ HW_ => ?_)
     generalize wc.drew = w18 at HO_4 BK245 HB hHeld ⊢
     refine pure_ (i := 0) (N := some 19) (v := ?_) (a' := ?_) #[true,false,false,false,false,false,false,false,false] rfl rfl (any_of HT_.out (by kernel_rfl)) (fun _ _ _ h => h) (Or.inl ⟨by rfl, ?_⟩) ?_ ?_
     rotate_left
     ·
      intro w'
      go_simp
      with_reducible rfl
     rotate_left
     ·
      simp only [Act.put, List.setIfInBounds_toArray, List.set_cons_zero, List.set_cons_succ, i64_w, i32_w]
      rfl
     refine pure_ (i := 1) (N := some 20) (v := ?_) (a' := ?_) #[true,true,false,false,false,false,false,false,false] rfl rfl (any_of HT_.out (by kernel_rfl)) (fun _ _ _ h => h) (Or.inl ⟨by rfl, ?_⟩) ?_ ?_
     rotate_left
     ·
      intro w'
      go_simp
      with_reducible rfl
     rotate_left
     ·
      simp only [Act.put, List.setIfInBounds_toArray, List.set_cons_zero, List.set_cons_succ, i64_w, i32_w]
      rfl
     refine pure_ (i := 4) (N := some 23) (v := ?_) (a' := ?_) #[true,true,false,false,true,false,false,false,false] rfl rfl (any_of HT_.out (by kernel_rfl)) (fun _ _ _ h => h) (Or.inl ⟨by rfl, ?_⟩) ?_ ?_
     rotate_left
     ·
      intro w'
      go_simp
      with_reducible rfl
     rotate_left
     ·
      simp only [Act.put, List.setIfInBounds_toArray, List.set_cons_zero, List.set_cons_succ, i64_w, i32_w]
      rfl
     refine take_ (i := 2) (N := some 21) (v := ?_) (a' := ?_) #[true,true,true,false,true,false,false,false,false] rfl rfl (take_ofW HT_.out HW_.out (by kernel_rfl)) (fun _ _ _ h => h) (Or.inl ⟨by rfl, ?_⟩) hHeld ?_ ?_
     rotate_left
     ·
      rintro w' ⟨s0, s1, s2, s3, s4, s5, s6, s7, s8, s9, s10, s11⟩
      go_simp
      with_reducible rfl
     rotate_left
     ·
      simp only [Act.put, List.setIfInBounds_toArray, List.set_cons_zero, List.set_cons_succ, i64_w, i32_w]
      rfl
     refine take_ (i := 5) (N := some 24) (v := ?_) (a' := ?_) #[true,true,true,false,true,true,false,false,false] rfl rfl (take_ofW HT_.out HW_.out (by kernel_rfl)) (fun _ _ _ h => h) (Or.inl ⟨by rfl, ?_⟩) hHeld ?_ ?_
     rotate_left
     ·
      rintro w' ⟨s0, s1, s2, s3, s4, s5, s6, s7, s8, s9, s10, s11⟩
      go_simp
      with_reducible rfl
     rotate_left
     ·
      simp only [Act.put, List.setIfInBounds_toArray, List.set_cons_zero, List.set_cons_succ, i64_w, i32_w]
      rfl
     refine one_ (i := 3) (N := some 22) #[true,true,true,true,true,true,false,false,false] rfl rfl (one_of HT_.out (by kernel_rfl)) (by decide) (fun K hK => ?_)
     refine goes_ Try.func46 (by kernel_rfl) rfl #[.slice Ao19 y247.length co19, .int .i64 a0_1] (by rfl) rfl rfl (by (try simp only [List.map_toArray, List.map_cons, List.map_nil]); first | done | rfl | (simp only [List.length_drop, List.length_take]; rfl)) ?_
     with_reducible refine (busbarref5_two.calls _ _ y247 a0_1 t250 _ ?side1 ?side2 A16.out).mono ?_
     (case side1 => repeat (first | exact (Kd.R_reads' HO_4.out).2.2 | (with_reducible refine Kd.C_alloc ?_ _) | (with_reducible refine Kd.C_drewN ?_ _) | (with_reducible refine Kd.C_drew ?_)))
     (case side2 => exact (Kd.R_reads' HO_4.out).2.1)
     rintro e w20 ⟨v251, rfl, ho0, hb⟩
     refine ⟨_, rfl, ?_⟩
     have n0_ := Aside0.mk (Kd.R_elder' (HO_4.out) (Kd.R_base ho0) hb)
     have n1_ := Aside0.mk (Kd.R_lower (Kd.R_new' (Kd.R_newM (M := fun k_ => (w.heap.size ≤ k_)) ho0 (below_size (HB.out)) (fun k_ h_ => h_)) (Kd.R_lt (HO_4.out))) (below_size (HB.out)))
     have n2_ := Aside0.mk (blk_below BK245.out hb)
     have n3_ := Aside0.mk (below_step (HB.out) hb)
     clear HO_4
     clear BK245
     clear HB
     have HO_4 := n0_
     have HO252 := n1_
     have BK245 := n2_
     have HB := n3_
     clear n0_ n1_ n2_ n3_
     (try clear hb)
     (try clear hb2)
     (try clear hk)
     (try clear hi)
     (try clear ho0)
     obtain ⟨Ao21, co21, eo21⟩ := Kd.R_slice HO252.out
     (first | subst eo21 | (injection eo21 with f1_ f2_ f3_; have f4_ := f1_.symm; have f5_ := f3_.symm; clear f1_ f2_ f3_; subst f4_; subst f5_))
     refine hK.out _ _ ⟨(blk_cell BK245.out 0).trans rfl, (blk_cell BK245.out 1).trans rfl, (blk_cell BK245.out 2).trans rfl, (blk_cell BK245.out 3).trans rfl, (blk_cell BK245.out 4).trans rfl, (blk_cell BK245.out 5).trans rfl, (blk_cell BK245.out 6).trans rfl, (blk_cell BK245.out 7).trans rfl, (blk_cell BK245.out 8).trans rfl, (blk_cell BK245.out 9).trans rfl, (blk_cell BK245.out 10).trans rfl, (blk_cell BK245.out 11).trans rfl⟩ (fun hHeld => ?_)
     clear hK K
     refine norm_ (a' := ?_) ?_ ?_
     rotate_left
     ·
      show Act.put _ (some 22) _ = _
      simp only [Act.put, List.setIfInBounds_toArray, List.set_cons_zero, List.set_cons_succ, i64_w, i32_w]
      rfl
     refine one_ (i := 6) (N := some 25) #[true,true,true,true,true,true,true,false,false] rfl rfl (one_of HT_.out (by kernel_rfl)) (by decide) (fun K hK => ?_)
     refine goes_ Try.func46 (by kernel_rfl) rfl #[.slice Ao21 t250.length co21, .int .i64 a0_2] (by rfl) rfl rfl (by (try simp only [List.map_toArray, List.map_cons, List.map_nil]); first | done | rfl | (simp only [List.length_drop, List.length_take]; rfl)) ?_
     with_reducible refine (busbarref5_two.calls _ _ t250 a0_2 t253 _ ?side1 ?side2 A17.out).mono ?_
     (case side1 => repeat (first | exact (Kd.R_reads' HO252.out).2.2 | (with_reducible refine Kd.C_alloc ?_ _) | (with_reducible refine Kd.C_drewN ?_ _) | (with_reducible refine Kd.C_drew ?_)))
     (case side2 => exact (Kd.R_reads' HO252.out).2.1)
     rintro e w22 ⟨v254, rfl, ho0, hb⟩
     refine ⟨_, rfl, ?_⟩
     have n0_ := Aside0.mk (Kd.R_elder' (HO_4.out) (Kd.R_base ho0) hb)
     have n1_ := Aside0.mk (Kd.R_elder' (HO252.out) (Kd.R_base ho0) hb)
     have n2_ := Aside0.mk (Kd.R_lower (Kd.R_new' (Kd.R_new' (Kd.R_newM (M := fun k_ => (w.heap.size ≤ k_)) ho0 (below_size (HB.out)) (fun k_ h_ => h_)) (Kd.R_lt (HO_4.out))) (Kd.R_lt (HO252.out))) (below_size (HB.out)))
     have n3_ := Aside0.mk (blk_below BK245.out hb)
     have n4_ := Aside0.mk (below_step (HB.out) hb)
     clear HO_4
     clear HO252
     clear BK245
     clear HB
     have HO_4 := n0_
     have HO252 := n1_
     have HO255 := n2_
     have BK245 := n3_
     have HB := n4_
     clear n0_ n1_ n2_ n3_ n4_
     (try clear hb)
     (try clear hb2)
     (try clear hk)
     (try clear hi)
     (try clear ho0)
     refine hK.out _ _ ⟨(blk_cell BK245.out 0).trans rfl, (blk_cell BK245.out 1).trans rfl, (blk_cell BK245.out 2).trans rfl, (blk_cell BK245.out 3).trans rfl, (blk_cell BK245.out 4).trans rfl, (blk_cell BK245.out 5).trans rfl, (blk_cell BK245.out 6).trans rfl, (blk_cell BK245.out 7).trans rfl, (blk_cell BK245.out 8).trans rfl, (blk_cell BK245.out 9).trans rfl, (blk_cell BK245.out 10).trans rfl, (blk_cell BK245.out 11).trans rfl⟩ (fun hHeld => ?_)
     clear hK K
     refine norm_ (a' := ?_) ?_ ?_
     rotate_left
     ·
      show Act.put _ (some 25) _ = _
      simp only [Act.put, List.setIfInBounds_toArray, List.set_cons_zero, List.set_cons_succ, i64_w, i32_w]
      rfl
     refine pure_ (i := 7) (N := some 2) (v := ?_) (a' := ?_) #[true,true,true,true,true,true,true,true,false] rfl rfl (any_of HT_.out (by kernel_rfl)) (fun _ _ _ h => h) (Or.inl ⟨by rfl, ?_⟩) ?_ ?_
     rotate_left
     ·
      intro w'
      go_simp
      with_reducible rfl
     rotate_left
     ·
      simp only [Act.put, List.setIfInBounds_toArray, List.set_cons_zero, List.set_cons_succ, i64_w, i32_w]
      rfl
     refine pure_ (i := 8) (N := some 3) (v := ?_) (a' := ?_) #[true,true,true,true,true,true,true,true,true] rfl rfl (any_of HT_.out (by kernel_rfl)) (fun _ _ _ h => h) (Or.inl ⟨by rfl, ?_⟩) ?_ ?_
     rotate_left
     ·
      intro w'
      go_simp
      with_reducible rfl
     rotate_left
     ·
      simp only [Act.put, List.setIfInBounds_toArray, List.set_cons_zero, List.set_cons_succ, i64_w, i32_w]
      rfl
     refine done_ (done_of HT_.out (by kernel_rfl)) ?_
     try go_wp2
     go_ret2
     exact ⟨_, by first | rfl | (simp [errW_none, errW_some] <;> rfl) | (simp [*, errW_none, errW_some] <;> rfl), Kd.R_V (Kd.R_mono HO255.out (fun _ hk => by first | exact hk.1.1.1 | exact hk)), HB.out⟩
    ·
     replace c15 := Bool.eq_false_iff.mpr c15
     subst c15
     have H1 : (if a0_0 = 5 then ((busbarref5_two.f y247 a0_1).bind fun t256 => ((busbarref5_two.f t256 (wrap64 ((wrap64 (a0_3)) * 65280))).bind fun t259 => (some (t259, 0)))) else (if a0_0 = 6 then ((busbarref5_two.f y247 a0_1).bind fun t262 => ((busbarref5_two.f t262 (wrap64 (a0_3))).bind fun t265 => (some (t265, 0)))) else (if a0_0 = 15 then ((busbarref5_two.f y247 a0_1).bind fun t268 => ((busbarref5_two.f t268 a0_2).bind fun t271 => ((busbarref1_Bytes.f a0_2).bind fun t274 => ((some (([(t274) % 256] : List Int) : List Int)).bind fun y275 => (if t271.length + y275.length < 140737488355328 then ((some (t271 ++ y275 : List Int)).bind fun y278 => ((busbarref1_Pack.f kj3 l0_6).bind fun t281 => (if y278.length + t281.length < 140737488355328 then (some ((y278 ++ t281), 0)) else (none)))) else (none)))))) else (if a0_0 = 16 then ((busbarref5_two.f y247 a0_1).bind fun t287 => ((busbarref5_two.f t287 a0_2).bind fun t290 => ((some (([(wrap64 (2 * a0_2)) % 256] : List Int) : List Int)).bind fun y293 => (if t290.length + y293.length < 140737488355328 then ((busbarref5_words.f kj3 (t290 ++ y293) l0_7).bind fun t299 => (some (t299, 0))) else (none))))) else (if a0_0 = 22 then ((busbarref5_two.f y247 a0_1).bind fun t302 => ((busbarref5_two.f t302 (wrap64 (a0_4))).bind fun t305 => ((busbarref5_two.f t305 (wrap64 (a0_5))).bind fun t308 => (some (t308, 0))))) else (if a0_0 = 23 then ((busbarref5_two.f y247 a0_8).bind fun t311 => ((busbarref5_two.f t311 a0_9).bind fun t314 => ((busbarref5_two.f t314 a0_1).bind fun t317 => ((busbarref5_two.f t317 a0_2).bind fun t320 => ((some (([(wrap64 (2 * a0_2)) % 256] : List Int) : List Int)).bind fun y323 => (if t320.length + y323.length < 140737488355328 then ((busbarref5_words.f kj3 (t320 ++ y323) l0_7).bind fun t329 => (some (t329, 0))) else (none))))))) else ((some (([14, (a0_10) % 256, (a0_11) % 256] : List Int) : List Int)).bind fun y332 => (if y247.length + y332.length < 140737488355328 then (some ((y247 ++ y332), 0)) else (none))))))))) = some (r1, r2) := by rw [if_neg (show ¬ (false = true) by decide)] at H; exact H
     clear H
     have H := H1
     clear H1
     by_cases c23 : a0_0 = 5
     ·
      rw [if_pos c23] at H
      have c23b0 : (a0_0 == 5) = true := beq_iff_eq.mpr c23
      have c23b1 : (a0_0 != 5) = false := bne_eq_false_iff_eq.mpr c23
      clear c23
      replace H := Option.bind_eq_some_iff.mp H
      obtain ⟨t256, A240, H⟩ := H
      have A24 := Aside0.mk A240
      clear A240
      replace H := Option.bind_eq_some_iff.mp H
      obtain ⟨t259, A250, H⟩ := H
      have A25 := Aside0.mk A250
      clear A250
      simp only [Option.some.injEq, Prod.mk.injEq] at H
      obtain ⟨rfl, rfl⟩ := H
      try go_wp2
      have n0_ := Aside0.mk (Kd.R_drew HO_4.out)
      have n1_ := Aside0.mk (blk_drew BK245.out)
      have n2_ := Aside0.mk (below_drew1 HB.out)
      clear HO_4
      clear BK245
      clear HB
      have HO_4 := n0_
      have BK245 := n1_
      have HB := n2_
      clear n0_ n1_ n2_
      obtain ⟨Ao27, co27, eo27⟩ := Kd.R_slice HO_4.out
      (first | subst eo27 | (injection eo27 with f1_ f2_ f3_; have f4_ := f1_.symm; have f5_ := f3_.symm; clear f1_ f2_ f3_; subst f4_; subst f5_))
      refine start_ (n := 11) (S := fun w' => w'.cell? ⟨gb245, 0, none⟩ = some (.int .i64 a0_0) ∧ w'.cell? ⟨gb245, 1, none⟩ = some (.int .i64 a0_1) ∧ w'.cell? ⟨gb245, 2, none⟩ = some (.int .i64 a0_2) ∧ w'.cell? ⟨gb245, 3, none⟩ = some (.int .u16 a0_3) ∧ w'.cell? ⟨gb245, 4, none⟩ = some (.int .u16 a0_4) ∧ w'.cell? ⟨gb245, 5, none⟩ = some (.int .u16 a0_5) ∧ w'.cell? ⟨gb245, 6, none⟩ = some (.slice A0_6 l0_6.length c0_6) ∧ w'.cell? ⟨gb245, 7, none⟩ = some (.slice A0_7 l0_7.length c0_7) ∧ w'.cell? ⟨gb245, 8, none⟩ = some (.int .i64 a0_8) ∧ w'.cell? ⟨gb245, 9, none⟩ = some (.int .i64 a0_9) ∧ w'.cell? ⟨gb245, 10, none⟩ = some (.int .i64 a0_10) ∧ w'.cell? ⟨gb245, 11, none⟩ = some (.int .i64 a0_11)) (ds := []) #[false,false,false,false,false,false,false,false,false,false,false] (by kernel_rfl) rfl rfl ⟨(blk_cell BK245.out 0).trans rfl, (blk_cell BK245.out 1).trans rfl, (blk_cell BK245.out 2).trans rfl, (blk_cell BK245.out 3).trans rfl, (blk_cell BK245.out 4).trans rfl, (blk_cell BK245.out 5).trans rfl, (blk_cell BK245.out 6).trans rfl, (blk_cell BK245.out 7).trans rfl, (blk_cell BK245.out 8).trans rfl, (blk_cell BK245.out 9).trans rfl, (blk_cell BK245.out 10).trans rfl, (blk_cell BK245.out 11).trans rfl⟩ (fun hHeld => ?_); refine with_tabW busbarref5_AskBytes.tab11 busbarref5_AskBytes.bits11 (fun HT_ HW_ => ?_)
      generalize wc.drew = w26 at HO_4 BK245 HB hHeld ⊢
      refine pure_ (i := 0) (N := some 28) (v := ?_) (a' := ?_) #[true,false,false,false,false,false,false,false,false,false,false] rfl rfl (any_of HT_.out (by kernel_rfl)) (fun _ _ _ h => h) (Or.inl ⟨by rfl, ?_⟩) ?_ ?_
      rotate_left
      ·
       intro w'
       go_simp
       with_reducible rfl
      rotate_left
      ·
       simp only [Act.put, List.setIfInBounds_toArray, List.set_cons_zero, List.set_cons_succ, i64_w, i32_w]
       rfl
      refine pure_ (i := 1) (N := some 29) (v := ?_) (a' := ?_) #[true,true,false,false,false,false,false,false,false,false,false] rfl rfl (any_of HT_.out (by kernel_rfl)) (fun _ _ _ h => h) (Or.inl ⟨by rfl, ?_⟩) ?_ ?_
      rotate_left
      ·
       intro w'
       go_simp
       with_reducible rfl
      rotate_left
      ·
       simp only [Act.put, List.setIfInBounds_toArray, List.set_cons_zero, List.set_cons_succ, i64_w, i32_w]
       rfl
      refine pure_ (i := 4) (N := some 32) (v := ?_) (a' := ?_) #[true,true,false,false,true,false,false,false,false,false,false] rfl rfl (any_of HT_.out (by kernel_rfl)) (fun _ _ _ h => h) (Or.inl ⟨by rfl, ?_⟩) ?_ ?_
      rotate_left
      ·
       intro w'
       go_simp
       with_reducible rfl
      rotate_left
      ·
       simp only [Act.put, List.setIfInBounds_toArray, List.set_cons_zero, List.set_cons_succ, i64_w, i32_w]
       rfl
      refine take_ (i := 2) (N := some 30) (v := ?_) (a' := ?_) #[true,true,true,false,true,false,false,false,false,false,false] rfl rfl (take_ofW HT_.out HW_.out (by kernel_rfl)) (fun _ _ _ h => h) (Or.inl ⟨by rfl, ?_⟩) hHeld ?_ ?_
      rotate_left
      ·
       rintro w' ⟨s0, s1, s2, s3, s4, s5, s6, s7, s8, s9, s10, s11⟩
       go_simp
       with_reducible rfl
      rotate_left
      ·
       simp only [Act.put, List.setIfInBounds_toArray, List.set_cons_zero, List.set_cons_succ, i64_w, i32_w]
       rfl
      refine take_ (i := 5) (N := some 33) (v := ?_) (a' := ?_) #[true,true,true,false,true,true,false,false,false,false,false] rfl rfl (take_ofW HT_.out HW_.out (by kernel_rfl)) (fun _ _ _ h => h) (Or.inl ⟨by rfl, ?_⟩) hHeld ?_ ?_
      rotate_left
      ·
       rintro w' ⟨s0, s1, s2, s3, s4, s5, s6, s7, s8, s9, s10, s11⟩
       go_simp
       with_reducible rfl
      rotate_left
      ·
       simp only [Act.put, List.setIfInBounds_toArray, List.set_cons_zero, List.set_cons_succ, i64_w, i32_w]
       rfl
      refine pure_ (i := 6) (N := some 34) (v := ?_) (a' := ?_) #[true,true,true,false,true,true,true,false,false,false,false] rfl rfl (any_of HT_.out (by kernel_rfl)) (fun _ _ _ h => h) (Or.inl ⟨by rfl, ?_⟩) ?_ ?_
      rotate_left
      ·
       intro w'
       go_simp
       with_reducible rfl
      rotate_left
      ·
       simp only [Act.put, List.setIfInBounds_toArray, List.set_cons_zero, List.set_cons_succ, i64_w, i32_w]
       rfl
      refine pure_ (i := 7) (N := some 35) (v := ?_) (a' := ?_) #[true,true,true,false,true,true,true,true,false,false,false] rfl rfl (any_of HT_.out (by kernel_rfl)) (fun _ _ _ h => h) (Or.inl ⟨by rfl, ?_⟩) ?_ ?_
      rotate_left
      ·
       intro w'
       go_simp
       with_reducible rfl
      rotate_left
      ·
       simp only [Act.put, List.setIfInBounds_toArray, List.set_cons_zero, List.set_cons_succ, i64_w, i32_w]
       rfl
      refine one_ (i := 3) (N := some 31) #[true,true,true,true,true,true,true,true,false,false,false] rfl rfl (one_of HT_.out (by kernel_rfl)) (by decide) (fun K hK => ?_)
      refine goes_ Try.func46 (by kernel_rfl) rfl #[.slice Ao27 y247.length co27, .int .i64 a0_1] (by rfl) rfl rfl (by (try simp only [List.map_toArray, List.map_cons, List.map_nil]); first | done | rfl | (simp only [List.length_drop, List.length_take]; rfl)) ?_
      with_reducible refine (busbarref5_two.calls _ _ y247 a0_1 t256 _ ?side1 ?side2 A24.out).mono ?_
      (case side1 => repeat (first | exact (Kd.R_reads' HO_4.out).2.2 | (with_reducible refine Kd.C_alloc ?_ _) | (with_reducible refine Kd.C_drewN ?_ _) | (with_reducible refine Kd.C_drew ?_)))
      (case side2 => exact (Kd.R_reads' HO_4.out).2.1)
      rintro e w28 ⟨v257, rfl, ho0, hb⟩
      refine ⟨_, rfl, ?_⟩
      have n0_ := Aside0.mk (Kd.R_elder' (HO_4.out) (Kd.R_base ho0) hb)
      have n1_ := Aside0.mk (Kd.R_lower (Kd.R_new' (Kd.R_newM (M := fun k_ => (w.heap.size ≤ k_)) ho0 (below_size (HB.out)) (fun k_ h_ => h_)) (Kd.R_lt (HO_4.out))) (below_size (HB.out)))
      have n2_ := Aside0.mk (blk_below BK245.out hb)
      have n3_ := Aside0.mk (below_step (HB.out) hb)
      clear HO_4
      clear BK245
      clear HB
      have HO_4 := n0_
      have HO258 := n1_
      have BK245 := n2_
      have HB := n3_
      clear n0_ n1_ n2_ n3_
      (try clear hb)
      (try clear hb2)
      (try clear hk)
      (try clear hi)
      (try clear ho0)
      obtain ⟨Ao29, co29, eo29⟩ := Kd.R_slice HO258.out
      (first | subst eo29 | (injection eo29 with f1_ f2_ f3_; have f4_ := f1_.symm; have f5_ := f3_.symm; clear f1_ f2_ f3_; subst f4_; subst f5_))
      refine hK.out _ _ ⟨(blk_cell BK245.out 0).trans rfl, (blk_cell BK245.out 1).trans rfl, (blk_cell BK245.out 2).trans rfl, (blk_cell BK245.out 3).trans rfl, (blk_cell BK245.out 4).trans rfl, (blk_cell BK245.out 5).trans rfl, (blk_cell BK245.out 6).trans rfl, (blk_cell BK245.out 7).trans rfl, (blk_cell BK245.out 8).trans rfl, (blk_cell BK245.out 9).trans rfl, (blk_cell BK245.out 10).trans rfl, (blk_cell BK245.out 11).trans rfl⟩ (fun hHeld => ?_)
      clear hK K
      refine norm_ (a' := ?_) ?_ ?_
      rotate_left
      ·
       show Act.put _ (some 31) _ = _
       simp only [Act.put, List.setIfInBounds_toArray, List.set_cons_zero, List.set_cons_succ, i64_w, i32_w]
       rfl
      refine one_ (i := 8) (N := some 36) #[true,true,true,true,true,true,true,true,true,false,false] rfl rfl (one_of HT_.out (by kernel_rfl)) (by decide) (fun K hK => ?_)
      refine goes_ Try.func46 (by kernel_rfl) rfl #[.slice Ao29 t256.length co29, .int .i64 (wrap64 ((wrap64 (a0_3)) * 65280))] (by rfl) rfl rfl (by (try simp only [List.map_toArray, List.map_cons, List.map_nil]); first | done | rfl | (simp only [List.length_drop, List.length_take]; rfl)) ?_
      with_reducible refine (busbarref5_two.calls _ _ t256 (wrap64 ((wrap64 (a0_3)) * 65280)) t259 _ ?side1 ?side2 A25.out).mono ?_
      (case side1 => repeat (first | exact (Kd.R_reads' HO258.out).2.2 | (with_reducible refine Kd.C_alloc ?_ _) | (with_reducible refine Kd.C_drewN ?_ _) | (with_reducible refine Kd.C_drew ?_)))
      (case side2 => exact (Kd.R_reads' HO258.out).2.1)
      rintro e w30 ⟨v260, rfl, ho0, hb⟩
      refine ⟨_, rfl, ?_⟩
      have n0_ := Aside0.mk (Kd.R_elder' (HO_4.out) (Kd.R_base ho0) hb)
      have n1_ := Aside0.mk (Kd.R_elder' (HO258.out) (Kd.R_base ho0) hb)
      have n2_ := Aside0.mk (Kd.R_lower (Kd.R_new' (Kd.R_new' (Kd.R_newM (M := fun k_ => (w.heap.size ≤ k_)) ho0 (below_size (HB.out)) (fun k_ h_ => h_)) (Kd.R_lt (HO_4.out))) (Kd.R_lt (HO258.out))) (below_size (HB.out)))
      have n3_ := Aside0.mk (blk_below BK245.out hb)
      have n4_ := Aside0.mk (below_step (HB.out) hb)
      clear HO_4
      clear HO258
      clear BK245
      clear HB
      have HO_4 := n0_
      have HO258 := n1_
      have HO261 := n2_
      have BK245 := n3_
      have HB := n4_
      clear n0_ n1_ n2_ n3_ n4_
      (try clear hb)
      (try clear hb2)
      (try clear hk)
      (try clear hi)
      (try clear ho0)
      refine hK.out _ _ ⟨(blk_cell BK245.out 0).trans rfl, (blk_cell BK245.out 1).trans rfl, (blk_cell BK245.out 2).trans rfl, (blk_cell BK245.out 3).trans rfl, (blk_cell BK245.out 4).trans rfl, (blk_cell BK245.out 5).trans rfl, (blk_cell BK245.out 6).trans rfl, (blk_cell BK245.out 7).trans rfl, (blk_cell BK245.out 8).trans rfl, (blk_cell BK245.out 9).trans rfl, (blk_cell BK245.out 10).trans rfl, (blk_cell BK245.out 11).trans rfl⟩ (fun hHeld => ?_)
      clear hK K
      refine norm_ (a' := ?_) ?_ ?_
      rotate_left
      ·
       show Act.put _ (some 36) _ = _
       simp only [Act.put, List.setIfInBounds_toArray, List.set_cons_zero, List.set_cons_succ, i64_w, i32_w]
       rfl
      refine pure_ (i := 9) (N := some 2) (v := ?_) (a' := ?_) #[true,true,true,true,true,true,true,true,true,true,false] rfl rfl (any_of HT_.out (by kernel_rfl)) (fun _ _ _ h => h) (Or.inl ⟨by rfl, ?_⟩) ?_ ?_
      rotate_left
      ·
       intro w'
       go_simp
       with_reducible rfl
      rotate_left
      ·
       simp only [Act.put, List.setIfInBounds_toArray, List.set_cons_zero, List.set_cons_succ, i64_w, i32_w]
       rfl
      refine pure_ (i := 10) (N := some 3) (v := ?_) (a' := ?_) #[true,true,true,true,true,true,true,true,true,true,true] rfl rfl (any_of HT_.out (by kernel_rfl)) (fun _ _ _ h => h) (Or.inl ⟨by rfl, ?_⟩) ?_ ?_
      rotate_left
      ·
       intro w'
       go_simp
       with_reducible rfl
      rotate_left
      ·
       simp only [Act.put, List.setIfInBounds_toArray, List.set_cons_zero, List.set_cons_succ, i64_w, i32_w]
       rfl
      refine done_ (done_of HT_.out (by kernel_rfl)) ?_
      try go_wp2
      go_ret2
      exact ⟨_, by first | rfl | (simp [errW_none, errW_some] <;> rfl) | (simp [*, errW_none, errW_some] <;> rfl), Kd.R_V (Kd.R_mono HO261.out (fun _ hk => by first | exact hk.1.1.1 | exact hk)), HB.out⟩
     ·
      rw [if_neg c23] at H
      have c23b0 : (a0_0 == 5) = false := beq_eq_false_iff_ne.mpr c23
      have c23b1 : (a0_0 != 5) = true := bne_iff_ne.mpr c23
      by_cases c31 : a0_0 = 6
      ·
       rw [if_pos c31] at H
       have c31b0 : (a0_0 == 6) = true := beq_iff_eq.mpr c31
       have c31b1 : (a0_0 != 6) = false := bne_eq_false_iff_eq.mpr c31
       clear c31
       replace H := Option.bind_eq_some_iff.mp H
       obtain ⟨t262, A320, H⟩ := H
       have A32 := Aside0.mk A320
       clear A320
       replace H := Option.bind_eq_some_iff.mp H
       obtain ⟨t265, A330, H⟩ := H
       have A33 := Aside0.mk A330
       clear A330
       simp only [Option.some.injEq, Prod.mk.injEq] at H
       obtain ⟨rfl, rfl⟩ := H
       try go_wp2
       have n0_ := Aside0.mk (Kd.R_drew HO_4.out)
       have n1_ := Aside0.mk (blk_drew BK245.out)
       have n2_ := Aside0.mk (below_drew1 HB.out)
       clear HO_4
       clear BK245
       clear HB
       have HO_4 := n0_
       have BK245 := n1_
       have HB := n2_
       clear n0_ n1_ n2_
       obtain ⟨Ao35, co35, eo35⟩ := Kd.R_slice HO_4.out
       (first | subst eo35 | (injection eo35 with f1_ f2_ f3_; have f4_ := f1_.symm; have f5_ := f3_.symm; clear f1_ f2_ f3_; subst f4_; subst f5_))
       refine start_ (n := 10) (S := fun w' => w'.cell? ⟨gb245, 0, none⟩ = some (.int .i64 a0_0) ∧ w'.cell? ⟨gb245, 1, none⟩ = some (.int .i64 a0_1) ∧ w'.cell? ⟨gb245, 2, none⟩ = some (.int .i64 a0_2) ∧ w'.cell? ⟨gb245, 3, none⟩ = some (.int .u16 a0_3) ∧ w'.cell? ⟨gb245, 4, none⟩ = some (.int .u16 a0_4) ∧ w'.cell? ⟨gb245, 5, none⟩ = some (.int .u16 a0_5) ∧ w'.cell? ⟨gb245, 6, none⟩ = some (.slice A0_6 l0_6.length c0_6) ∧ w'.cell? ⟨gb245, 7, none⟩ = some (.slice A0_7 l0_7.length c0_7) ∧ w'.cell? ⟨gb245, 8, none⟩ = some (.int .i64 a0_8) ∧ w'.cell? ⟨gb245, 9, none⟩ = some (.int .i64 a0_9) ∧ w'.cell? ⟨gb245, 10, none⟩ = some (.int .i64 a0_10) ∧ w'.cell? ⟨gb245, 11, none⟩ = some (.int .i64 a0_11)) (ds := []) #[false,false,false,false,false,false,false,false,false,false] (by kernel_rfl) rfl rfl ⟨(blk_cell BK245.out 0).trans rfl, (blk_cell BK245.out 1).trans rfl, (blk_cell BK245.out 2).trans rfl, (blk_cell BK245.out 3).trans rfl, (blk_cell BK245.out 4).trans rfl, (blk_cell BK245.out 5).trans rfl, (blk_cell BK245.out 6).trans rfl, (blk_cell BK245.out 7).trans rfl, (blk_cell BK245.out 8).trans rfl, (blk_cell BK245.out 9).trans rfl, (blk_cell BK245.out 10).trans rfl, (blk_cell BK245.out 11).trans rfl⟩ (fun hHeld => ?_); refine with_tabW busbarref5_AskBytes.tab13 busbarref5_AskBytes.bits13 (fun HT_ HW_ => ?_)
       generalize wc.drew = w34 at HO_4 BK245 HB hHeld ⊢
       refine pure_ (i := 0) (N := some 39) (v := ?_) (a' := ?_) #[true,false,false,false,false,false,false,false,false,false] rfl rfl (any_of HT_.out (by kernel_rfl)) (fun _ _ _ h => h) (Or.inl ⟨by rfl, ?_⟩) ?_ ?_
       rotate_left
       ·
        intro w'
        go_simp
        with_reducible rfl
       rotate_left
       ·
        simp only [Act.put, List.setIfInBounds_toArray, List.set_cons_zero, List.set_cons_succ, i64_w, i32_w]
        rfl
       refine pure_ (i := 1) (N := some 40) (v := ?_) (a' := ?_) #[true,true,false,false,false,false,false,false,false,false] rfl rfl (any_of HT_.out (by kernel_rfl)) (fun _ _ _ h => h) (Or.inl ⟨by rfl, ?_⟩) ?_ ?_
       rotate_left
       ·
        intro w'
        go_simp
        with_reducible rfl
       rotate_left
       ·
        simp only [Act.put, List.setIfInBounds_toArray, List.set_cons_zero, List.set_cons_succ, i64_w, i32_w]
        rfl
       refine pure_ (i := 4) (N := some 43) (v := ?_) (a' := ?_) #[true,true,false,false,true,false,false,false,false,false] rfl rfl (any_of HT_.out (by kernel_rfl)) (fun _ _ _ h => h) (Or.inl ⟨by rfl, ?_⟩) ?_ ?_
       rotate_left
       ·
        intro w'
        go_simp
        with_reducible rfl
       rotate_left
       ·
        simp only [Act.put, List.setIfInBounds_toArray, List.set_cons_zero, List.set_cons_succ, i64_w, i32_w]
        rfl
       refine take_ (i := 2) (N := some 41) (v := ?_) (a' := ?_) #[true,true,true,false,true,false,false,false,false,false] rfl rfl (take_ofW HT_.out HW_.out (by kernel_rfl)) (fun _ _ _ h => h) (Or.inl ⟨by rfl, ?_⟩) hHeld ?_ ?_
       rotate_left
       ·
        rintro w' ⟨s0, s1, s2, s3, s4, s5, s6, s7, s8, s9, s10, s11⟩
        go_simp
        with_reducible rfl
       rotate_left
       ·
        simp only [Act.put, List.setIfInBounds_toArray, List.set_cons_zero, List.set_cons_succ, i64_w, i32_w]
        rfl
       refine take_ (i := 5) (N := some 44) (v := ?_) (a' := ?_) #[true,true,true,false,true,true,false,false,false,false] rfl rfl (take_ofW HT_.out HW_.out (by kernel_rfl)) (fun _ _ _ h => h) (Or.inl ⟨by rfl, ?_⟩) hHeld ?_ ?_
       rotate_left
       ·
        rintro w' ⟨s0, s1, s2, s3, s4, s5, s6, s7, s8, s9, s10, s11⟩
        go_simp
        with_reducible rfl
       rotate_left
       ·
        simp only [Act.put, List.setIfInBounds_toArray, List.set_cons_zero, List.set_cons_succ, i64_w, i32_w]
        rfl
       refine pure_ (i := 6) (N := some 45) (v := ?_) (a' := ?_) #[true,true,true,false,true,true,true,false,false,false] rfl rfl (any_of HT_.out (by kernel_rfl)) (fun _ _ _ h => h) (Or.inl ⟨by rfl, ?_⟩) ?_ ?_
       rotate_left
       ·
        intro w'
        go_simp
        with_reducible rfl
       rotate_left
       ·
        simp only [Act.put, List.setIfInBounds_toArray, List.set_cons_zero, List.set_cons_succ, i64_w, i32_w]
        rfl
       refine one_ (i := 3) (N := some 42) #[true,true,true,true,true,true,true,false,false,false] rfl rfl (one_of HT_.out (by kernel_rfl)) (by decide) (fun K hK => ?_)
       refine goes_ Try.func46 (by kernel_rfl) rfl #[.slice Ao35 y247.length co35, .int .i64 a0_1] (by rfl) rfl rfl (by (try simp only [List.map_toArray, List.map_cons, List.map_nil]); first | done | rfl | (simp only [List.length_drop, List.length_take]; rfl)) ?_
       with_reducible refine (busbarref5_two.calls _ _ y247 a0_1 t262 _ ?side1 ?side2 A32.out).mono ?_
       (case side1 => repeat (first | exact (Kd.R_reads' HO_4.out).2.2 | (with_reducible refine Kd.C_alloc ?_ _) | (with_reducible refine Kd.C_drewN ?_ _) | (with_reducible refine Kd.C_drew ?_)))
       (case side2 => exact (Kd.R_reads' HO_4.out).2.1)
       rintro e w36 ⟨v263, rfl, ho0, hb⟩
       refine ⟨_, rfl, ?_⟩
       have n0_ := Aside0.mk (Kd.R_elder' (HO_4.out) (Kd.R_base ho0) hb)
       have n1_ := Aside0.mk (Kd.R_lower (Kd.R_new' (Kd.R_newM (M := fun k_ => (w.heap.size ≤ k_)) ho0 (below_size (HB.out)) (fun k_ h_ => h_)) (Kd.R_lt (HO_4.out))) (below_size (HB.out)))
       have n2_ := Aside0.mk (blk_below BK245.out hb)
       have n3_ := Aside0.mk (below_step (HB.out) hb)
       clear HO_4
       clear BK245
       clear HB
       have HO_4 := n0_
       have HO264 := n1_
       have BK245 := n2_
       have HB := n3_
       clear n0_ n1_ n2_ n3_
       (try clear hb)
       (try clear hb2)
       (try clear hk)
       (try clear hi)
       (try clear ho0)
       obtain ⟨Ao37, co37, eo37⟩ := Kd.R_slice HO264.out
       (first | subst eo37 | (injection eo37 with f1_ f2_ f3_; have f4_ := f1_.symm; have f5_ := f3_.symm; clear f1_ f2_ f3_; subst f4_; subst f5_))
       refine hK.out _ _ ⟨(blk_cell BK245.out 0).trans rfl, (blk_cell BK245.out 1).trans rfl, (blk_cell BK245.out 2).trans rfl, (blk_cell BK245.out 3).trans rfl, (blk_cell BK245.out 4).trans rfl, (blk_cell BK245.out 5).trans rfl, (blk_cell BK245.out 6).trans rfl, (blk_cell BK245.out 7).trans rfl, (blk_cell BK245.out 8).trans rfl, (blk_cell BK245.out 9).trans rfl, (blk_cell BK245.out 10).trans rfl, (blk_cell BK245.out 11).trans rfl⟩ (fun hHeld => ?_)
       clear hK K
       refine norm_ (a' := ?_) ?_ ?_
       rotate_left
       ·
        show Act.put _ (some 42) _ = _
        simp only [Act.put, List.setIfInBounds_toArray, List.set_cons_zero, List.set_cons_succ, i64_w, i32_w]
        rfl
       refine one_ (i := 7) (N := some 46) #[true,true,true,true,true,true,true,true,false,false] rfl rfl (one_of HT_.out (by kernel_rfl)) (by decide) (fun K hK => ?_)
       refine goes_ Try.func46 (by kernel_rfl) rfl #[.slice Ao37 t262.length co37, .int .i64 (wrap64 (a0_3))] (by rfl) rfl rfl (by (try simp only [List.map_toArray, List.map_cons, List.map_nil]); first | done | rfl | (simp only [List.length_drop, List.length_take]; rfl)) ?_
       with_reducible refine (busbarref5_two.calls _ _ t262 (wrap64 (a0_3)) t265 _ ?side1 ?side2 A33.out).mono ?_
       (case side1 => repeat (first | exact (Kd.R_reads' HO264.out).2.2 | (with_reducible refine Kd.C_alloc ?_ _) | (with_reducible refine Kd.C_drewN ?_ _) | (with_reducible refine Kd.C_drew ?_)))
       (case side2 => exact (Kd.R_reads' HO264.out).2.1)
       rintro e w38 ⟨v266, rfl, ho0, hb⟩
       refine ⟨_, rfl, ?_⟩
       have n0_ := Aside0.mk (Kd.R_elder' (HO_4.out) (Kd.R_base ho0) hb)
       have n1_ := Aside0.mk (Kd.R_elder' (HO264.out) (Kd.R_base ho0) hb)
       have n2_ := Aside0.mk (Kd.R_lower (Kd.R_new' (Kd.R_new' (Kd.R_newM (M := fun k_ => (w.heap.size ≤ k_)) ho0 (below_size (HB.out)) (fun k_ h_ => h_)) (Kd.R_lt (HO_4.out))) (Kd.R_lt (HO264.out))) (below_size (HB.out)))
       have n3_ := Aside0.mk (blk_below BK245.out hb)
       have n4_ := Aside0.mk (below_step (HB.out) hb)
       clear HO_4
       clear HO264
       clear BK245
       clear HB
       have HO_4 := n0_
       have HO264 := n1_
       have HO267 := n2_
       have BK245 := n3_
       have HB := n4_
       clear n0_ n1_ n2_ n3_ n4_
       (try clear hb)
       (try clear hb2)
       (try clear hk)
       (try clear hi)
       (try clear ho0)
       refine hK.out _ _ ⟨(blk_cell BK245.out 0).trans rfl, (blk_cell BK245.out 1).trans rfl, (blk_cell BK245.out 2).trans rfl, (blk_cell BK245.out 3).trans rfl, (blk_cell BK245.out 4).trans rfl, (blk_cell BK245.out 5).trans rfl, (blk_cell BK245.out 6).trans rfl, (blk_cell BK245.out 7).trans rfl, (blk_cell BK245.out 8).trans rfl, (blk_cell BK245.out 9).trans rfl, (blk_cell BK245.out 10).trans rfl, (blk_cell BK245.out 11).trans rfl⟩ (fun hHeld => ?_)
       clear hK K
       refine norm_ (a' := ?_) ?_ ?_
       rotate_left
       ·
        show Act.put _ (some 46) _ = _
        simp only [Act.put, List.setIfInBounds_toArray, List.set_cons_zero, List.set_cons_succ, i64_w, i32_w]
        rfl
       refine pure_ (i := 8) (N := some 2) (v := ?_) (a' := ?_) #[true,true,true,true,true,true,true,true,true,false] rfl rfl (any_of HT_.out (by kernel_rfl)) (fun _ _ _ h => h) (Or.inl ⟨by rfl, ?_⟩) ?_ ?_
       rotate_left
       ·
        intro w'
        go_simp
        with_reducible rfl
       rotate_left
       ·
        simp only [Act.put, List.setIfInBounds_toArray, List.set_cons_zero, List.set_cons_succ, i64_w, i32_w]
        rfl
       refine pure_ (i := 9) (N := some 3) (v := ?_) (a' := ?_) #[true,true,true,true,true,true,true,true,true,true] rfl rfl (any_of HT_.out (by kernel_rfl)) (fun _ _ _ h => h) (Or.inl ⟨by rfl, ?_⟩) ?_ ?_
       rotate_left
       ·
        intro w'
        go_simp
        with_reducible rfl
       rotate_left
       ·
        simp only [Act.put, List.setIfInBounds_toArray, List.set_cons_zero, List.set_cons_succ, i64_w, i32_w]
        rfl
       refine done_ (done_of HT_.out (by kernel_rfl)) ?_
       try go_wp2
       go_ret2
       exact ⟨_, by first | rfl | (simp [errW_none, errW_some] <;> rfl) | (simp [*, errW_none, errW_some] <;> rfl), Kd.R_V (Kd.R_mono HO267.out (fun _ hk => by first | exact hk.1.1.1 | exact hk)), HB.out⟩
      ·
       rw [if_neg c31] at H
       have c31b0 : (a0_0 == 6) = false := beq_eq_false_iff_ne.mpr c31
       have c31b1 : (a0_0 != 6) = true := bne_iff_ne.mpr c31
       by_cases c39 : a0_0 = 15
       ·
        rw [if_pos c39] at H
        have c39b0 : (a0_0 == 15) = true := beq_iff_eq.mpr c39
        have c39b1 : (a0_0 != 15) = false := bne_eq_false_iff_eq.mpr c39
        clear c39
        replace H := Option.bind_eq_some_iff.mp H
        obtain ⟨t268, A400, H⟩ := H
        have A40 := Aside0.mk A400
        clear A400
        replace H := Option.bind_eq_some_iff.mp H
        obtain ⟨t271, A410, H⟩ := H
        have A41 := Aside0.mk A410
        clear A410
        replace H := Option.bind_eq_some_iff.mp H
        obtain ⟨t274, A420, H⟩ := H
        have A42 := Aside0.mk A420
        clear A420
        obtain ⟨y275, hy275⟩ : ∃ y_ : List Int, y_ = (([(t274) % 256] : List Int)) := ⟨_, rfl⟩
        replace H : (if t271.length + y275.length < 140737488355328 then ((some (t271 ++ y275 : List Int)).bind fun y278 => ((busbarref1_Pack.f kj3 l0_6).bind fun t281 => (if y278.length + t281.length < 140737488355328 then (some ((y278 ++ t281), 0)) else (none)))) else (none)) = some (r1, r2) := by first | (rw [hy275]; with_reducible exact H) | (have H2_ := (Option.bind_some _ _).symm.trans H; rw [hy275]; with_reducible exact H2_) | (have H2_ := (Option.bind_some _ _).symm.trans H; with_reducible exact H2_) | with_reducible exact H | (rw [hy275]; exact H) | exact H
        have Ny275 := Aside0.mk hy275
        clear hy275
        by_cases c43 : t271.length + y275.length < 140737488355328
        ·
         rw [if_pos c43] at H
         have LMc43 := Aside0.mk c43
         clear c43
         obtain ⟨y278, hy278⟩ : ∃ y_ : List Int, y_ = (t271 ++ y275) := ⟨_, rfl⟩
         replace H : ((busbarref1_Pack.f kj3 l0_6).bind fun t281 => (if y278.length + t281.length < 140737488355328 then (some ((y278 ++ t281), 0)) else (none))) = some (r1, r2) := by first | (rw [hy278]; with_reducible exact H) | (have H2_ := (Option.bind_some _ _).symm.trans H; rw [hy278]; with_reducible exact H2_) | (have H2_ := (Option.bind_some _ _).symm.trans H; with_reducible exact H2_) | with_reducible exact H | (rw [hy278]; exact H) | exact H
         have Ny278 := Aside0.mk hy278
         clear hy278
         replace H := Option.bind_eq_some_iff.mp H
         obtain ⟨t281, A440, H⟩ := H
         have A44 := Aside0.mk A440
         clear A440
         by_cases c45 : y278.length + t281.length < 140737488355328
         ·
          rw [if_pos c45] at H
          have LMc45 := Aside0.mk c45
          clear c45
          obtain ⟨y284, hy284⟩ : ∃ y_ : List Int, y_ = (y278 ++ t281) := ⟨_, rfl⟩
          replace H : (some (y284, 0)) = some (r1, r2) := by first | (rw [hy284]; with_reducible exact H) | (have H2_ := (Option.bind_some _ _).symm.trans H; rw [hy284]; with_reducible exact H2_) | (have H2_ := (Option.bind_some _ _).symm.trans H; with_reducible exact H2_) | with_reducible exact H | (rw [hy284]; exact H) | exact H
          have Ny284 := Aside0.mk hy284
          clear hy284
          simp only [Option.some.injEq, Prod.mk.injEq] at H
          obtain ⟨rfl, rfl⟩ := H
          try go_wp2
          have n0_ := Aside0.mk (Kd.R_drew HO_4.out)
          have n1_ := Aside0.mk (blk_drew BK245.out)
          have n2_ := Aside0.mk (below_drew1 HB.out)
          clear HO_4
          clear BK245
          clear HB
          have HO_4 := n0_
          have BK245 := n1_
          have HB := n2_
          clear n0_ n1_ n2_
          obtain ⟨Ao47, co47, eo47⟩ := Kd.R_slice HO_4.out
          (first | subst eo47 | (injection eo47 with f1_ f2_ f3_; have f4_ := f1_.symm; have f5_ := f3_.symm; clear f1_ f2_ f3_; subst f4_; subst f5_))
          refine start_ (n := 14) (S := fun w' => w'.cell? ⟨gb245, 0, none⟩ = some (.int .i64 a0_0) ∧ w'.cell? ⟨gb245, 1, none⟩ = some (.int .i64 a0_1) ∧ w'.cell? ⟨gb245, 2, none⟩ = some (.int .i64 a0_2) ∧ w'.cell? ⟨gb245, 3, none⟩ = some (.int .u16 a0_3) ∧ w'.cell? ⟨gb245, 4, none⟩ = some (.int .u16 a0_4) ∧ w'.cell? ⟨gb245, 5, none⟩ = some (.int .u16 a0_5) ∧ w'.cell? ⟨gb245, 6, none⟩ = some (.slice A0_6 l0_6.length c0_6) ∧ w'.cell? ⟨gb245, 7, none⟩ = some (.slice A0_7 l0_7.length c0_7) ∧ w'.cell? ⟨gb245, 8, none⟩ = some (.int .i64 a0_8) ∧ w'.cell? ⟨gb245, 9, none⟩ = some (.int .i64 a0_9) ∧ w'.cell? ⟨gb245, 10, none⟩ = some (.int .i64 a0_10) ∧ w'.cell? ⟨gb245, 11, none⟩ = some (.int .i64 a0_11)) (ds := []) #[false,false,false,false,false,false,false,false,false,false,false,false,false,false] (by kernel_rfl) rfl rfl ⟨(blk_cell BK245.out 0).trans rfl, (blk_cell BK245.out 1).trans rfl, (blk_cell BK245.out 2).trans rfl, (blk_cell BK245.out 3).trans rfl, (blk_cell BK245.out 4).trans rfl, (blk_cell BK245.out 5).trans rfl, (blk_cell BK245.out 6).trans rfl, (blk_cell BK245.out 7).trans rfl, (blk_cell BK245.out 8).trans rfl, (blk_cell BK245.out 9).trans rfl, (blk_cell BK245.out 10).trans rfl, (blk_cell BK245.out 11).trans rfl⟩ (fun hHeld => ?_); refine with_tabW busbarref5_AskBytes.tab15 busbarref5_AskBytes.bits15 (fun HT_ HW_ => ?_)
          generalize wc.drew = w46 at HO_4 BK245 HB hHeld ⊢
          refine pure_ (i := 0) (N := some 49) (v := ?_) (a' := ?_) #[true,false,false,false,false,false,false,false,false,false,false,false,false,false] rfl rfl (any_of HT_.out (by kernel_rfl)) (fun _ _ _ h => h) (Or.inl ⟨by rfl, ?_⟩) ?_ ?_
          rotate_left
          ·
           intro w'
           go_simp
           with_reducible rfl
          rotate_left
          ·
           simp only [Act.put, List.setIfInBounds_toArray, List.set_cons_zero, List.set_cons_succ, i64_w, i32_w]
           rfl
          refine pure_ (i := 1) (N := some 50) (v := ?_) (a' := ?_) #[true,true,false,false,false,false,false,false,false,false,false,false,false,false] rfl rfl (any_of HT_.out (by kernel_rfl)) (fun _ _ _ h => h) (Or.inl ⟨by rfl, ?_⟩) ?_ ?_
          rotate_left
          ·
           intro w'
           go_simp
           with_reducible rfl
          rotate_left
          ·
           simp only [Act.put, List.setIfInBounds_toArray, List.set_cons_zero, List.set_cons_succ, i64_w, i32_w]
           rfl
          refine pure_ (i := 4) (N := some 53) (v := ?_) (a' := ?_) #[true,true,false,false,true,false,false,false,false,false,false,false,false,false] rfl rfl (any_of HT_.out (by kernel_rfl)) (fun _ _ _ h => h) (Or.inl ⟨by rfl, ?_⟩) ?_ ?_
          rotate_left
          ·
           intro w'
           go_simp
           with_reducible rfl
          rotate_left
          ·
           simp only [Act.put, List.setIfInBounds_toArray, List.set_cons_zero, List.set_cons_succ, i64_w, i32_w]
           rfl
          refine pure_ (i := 7) (N := some 56) (v := ?_) (a' := ?_) #[true,true,false,false,true,false,false,true,false,false,false,false,false,false] rfl rfl (any_of HT_.out (by kernel_rfl)) (fun _ _ _ h => h) (Or.inl ⟨by rfl, ?_⟩) ?_ ?_
          rotate_left
          ·
           intro w'
           go_simp
           with_reducible rfl
          rotate_left
          ·
           simp only [Act.put, List.setIfInBounds_toArray, List.set_cons_zero, List.set_cons_succ, i64_w, i32_w]
           rfl
          refine take_ (i := 2) (N := some 51) (v := ?_) (a' := ?_) #[true,true,true,false,true,false,false,true,false,false,false,false,false,false] rfl rfl (take_ofW HT_.out HW_.out (by kernel_rfl)) (fun _ _ _ h => h) (Or.inl ⟨by rfl, ?_⟩) hHeld ?_ ?_
          rotate_left
          ·
           rintro w' ⟨s0, s1, s2, s3, s4, s5, s6, s7, s8, s9, s10, s11⟩
           go_simp
           with_reducible rfl
          rotate_left
          ·
           simp only [Act.put, List.setIfInBounds_toArray, List.set_cons_zero, List.set_cons_succ, i64_w, i32_w]
           rfl
          refine take_ (i := 5) (N := some 54) (v := ?_) (a' := ?_) #[true,true,true,false,true,true,false,true,false,false,false,false,false,false] rfl rfl (take_ofW HT_.out HW_.out (by kernel_rfl)) (fun _ _ _ h => h) (Or.inl ⟨by rfl, ?_⟩) hHeld ?_ ?_
          rotate_left
          ·
           rintro w' ⟨s0, s1, s2, s3, s4, s5, s6, s7, s8, s9, s10, s11⟩
           go_simp
           with_reducible rfl
          rotate_left
          ·
           simp only [Act.put, List.setIfInBounds_toArray, List.set_cons_zero, List.set_cons_succ, i64_w, i32_w]
           rfl
          refine take_ (i := 8) (N := some 57) (v := ?_) (a' := ?_) #[true,true,true,false,true,true,false,true,true,false,false,false,false,false] rfl rfl (take_ofW HT_.out HW_.out (by kernel_rfl)) (fun _ _ _ h => h) (Or.inl ⟨by rfl, ?_⟩) hHeld ?_ ?_
          rotate_left
          ·
           rintro w' ⟨s0, s1, s2, s3, s4, s5, s6, s7, s8, s9, s10, s11⟩
           go_simp
           with_reducible rfl
          rotate_left
          ·
           simp only [Act.put, List.setIfInBounds_toArray, List.set_cons_zero, List.set_cons_succ, i64_w, i32_w]
           rfl
          refine one_ (i := 3) (N := some 52) #[true,true,true,true,true,true,false,true,true,false,false,false,false,false] rfl rfl (one_of HT_.out (by kernel_rfl)) (by decide) (fun K hK => ?_)
          refine goes_ Try.func46 (by kernel_rfl) rfl #[.slice Ao47 y247.length co47, .int .i64 a0_1] (by rfl) rfl rfl (by (try simp only [List.map_toArray, List.map_cons, List.map_nil]); first | done | rfl | (simp only [List.length_drop, List.length_take]; rfl)) ?_
          with_reducible refine (busbarref5_two.calls _ _ y247 a0_1 t268 _ ?side1 ?side2 A40.out).mono ?_
          (case side1 => repeat (first | exact (Kd.R_reads' HO_4.out).2.2 | (with_reducible refine Kd.C_alloc ?_ _) | (with_reducible refine Kd.C_drewN ?_ _) | (with_reducible refine Kd.C_drew ?_)))
          (case side2 => exact (Kd.R_reads' HO_4.out).2.1)
          rintro e w48 ⟨v269, rfl, ho0, hb⟩
          refine ⟨_, rfl, ?_⟩
          have n0_ := Aside0.mk (Kd.R_elder' (HO_4.out) (Kd.R_base ho0) hb)
          have n1_ := Aside0.mk (Kd.R_lower (Kd.R_new' (Kd.R_newM (M := fun k_ => (w.heap.size ≤ k_)) ho0 (below_size (HB.out)) (fun k_ h_ => h_)) (Kd.R_lt (HO_4.out))) (below_size (HB.out)))
          have n2_ := Aside0.mk (blk_below BK245.out hb)
          have n3_ := Aside0.mk (below_step (HB.out) hb)
          clear HO_4
          clear BK245
          clear HB
          have HO_4 := n0_
          have HO270 := n1_
          have BK245 := n2_
          have HB := n3_
          clear n0_ n1_ n2_ n3_
          (try clear hb)
          (try clear hb2)
          (try clear hk)
          (try clear hi)
          (try clear ho0)
          obtain ⟨Ao49, co49, eo49⟩ := Kd.R_slice HO270.out
          (first | subst eo49 | (injection eo49 with f1_ f2_ f3_; have f4_ := f1_.symm; have f5_ := f3_.symm; clear f1_ f2_ f3_; subst f4_; subst f5_))
          refine hK.out _ _ ⟨(blk_cell BK245.out 0).trans rfl, (blk_cell BK245.out 1).trans rfl, (blk_cell BK245.out 2).trans rfl, (blk_cell BK245.out 3).trans rfl, (blk_cell BK245.out 4).trans rfl, (blk_cell BK245.out 5).trans rfl, (blk_cell BK245.out 6).trans rfl, (blk_cell BK245.out 7).trans rfl, (blk_cell BK245.out 8).trans rfl, (blk_cell BK245.out 9).trans rfl, (blk_cell BK245.out 10).trans rfl, (blk_cell BK245.out 11).trans rfl⟩ (fun hHeld => ?_)
          clear hK K
          refine norm_ (a' := ?_) ?_ ?_
          rotate_left
          ·
           show Act.put _ (some 52) _ = _
           simp only [Act.put, List.setIfInBounds_toArray, List.set_cons_zero, List.set_cons_succ, i64_w, i32_w]
           rfl
          refine one_ (i := 6) (N := some 55) #[true,true,true,true,true,true,true,true,true,false,false,false,false,false] rfl rfl (one_of HT_.out (by kernel_rfl)) (by decide) (fun K hK => ?_)
          refine goes_ Try.func46 (by kernel_rfl) rfl #[.slice Ao49 t268.length co49, .int .i64 a0_2] (by rfl) rfl rfl (by (try simp only [List.map_toArray, List.map_cons, List.map_nil]); first | done | rfl | (simp only [List.length_drop, List.length_take]; rfl)) ?_
          with_reducible refine (busbarref5_two.calls _ _ t268 a0_2 t271 _ ?side1 ?side2 A41.out).mono ?_
          (case side1 => repeat (first | exact (Kd.R_reads' HO270.out).2.2 | (with_reducible refine Kd.C_alloc ?_ _) | (with_reducible refine Kd.C_drewN ?_ _) | (with_reducible refine Kd.C_drew ?_)))
          (case side2 => exact (Kd.R_reads' HO270.out).2.1)
          rintro e w50 ⟨v272, rfl, ho0, hb⟩
          refine ⟨_, rfl, ?_⟩
          have n0_ := Aside0.mk (Kd.R_elder' (HO_4.out) (Kd.R_base ho0) hb)
          have n1_ := Aside0.mk (Kd.R_elder' (HO270.out) (Kd.R_base ho0) hb)
          have n2_ := Aside0.mk (Kd.R_lower (Kd.R_new' (Kd.R_new' (Kd.R_newM (M := fun k_ => (w.heap.size ≤ k_)) ho0 (below_size (HB.out)) (fun k_ h_ => h_)) (Kd.R_lt (HO_4.out))) (Kd.R_lt (HO270.out))) (below_size (HB.out)))
          have n3_ := Aside0.mk (blk_below BK245.out hb)
          have n4_ := Aside0.mk (below_step (HB.out) hb)
          clear HO_4
          clear HO270
          clear BK245
          clear HB
          have HO_4 := n0_
          have HO270 := n1_
          have HO273 := n2_
          have BK245 := n3_
          have HB := n4_
          clear n0_ n1_ n2_ n3_ n4_
          (try clear hb)
          (try clear hb2)
          (try clear hk)
          (try clear hi)
          (try clear ho0)
          refine hK.out _ _ ⟨(blk_cell BK245.out 0).trans rfl, (blk_cell BK245.out 1).trans rfl, (blk_cell BK245.out 2).trans rfl, (blk_cell BK245.out 3).trans rfl, (blk_cell BK245.out 4).trans rfl, (blk_cell BK245.out 5).trans rfl, (blk_cell BK245.out 6).trans rfl, (blk_cell BK245.out 7).trans rfl, (blk_cell BK245.out 8).trans rfl, (blk_cell BK245.out 9).trans rfl, (blk_cell BK245.out 10).trans rfl, (blk_cell BK245.out 11).trans rfl⟩ (fun hHeld => ?_)
          clear hK K
          refine norm_ (a' := ?_) ?_ ?_
          rotate_left
          ·
           show Act.put _ (some 55) _ = _
           simp only [Act.put, List.setIfInBounds_toArray, List.set_cons_zero, List.set_cons_succ, i64_w, i32_w]
           rfl
          refine one_ (i := 9) (N := some 58) #[true,true,true,true,true,true,true,true,true,true,false,false,false,false] rfl rfl (one_of HT_.out (by kernel_rfl)) (by decide) (fun K hK => ?_)
          refine goes_ Try.func47 (by kernel_rfl) rfl #[.int .i64 a0_2] (by rfl) rfl rfl (by (try simp only [List.map_toArray, List.map_cons, List.map_nil]); first | done | rfl | (simp only [List.length_drop, List.length_take]; rfl)) ?_
          with_reducible refine (busbarref1_Bytes.calls a0_2 t274 _ A42.out).mono ?_
          rintro e w' ⟨rfl, ⟨nd, rfl⟩⟩
          refine ⟨_, rfl, ?_⟩
          refine hK.out _ _ ⟨(blk_cell BK245.out 0).trans rfl, (blk_cell BK245.out 1).trans rfl, (blk_cell BK245.out 2).trans rfl, (blk_cell BK245.out 3).trans rfl, (blk_cell BK245.out 4).trans rfl, (blk_cell BK245.out 5).trans rfl, (blk_cell BK245.out 6).trans rfl, (blk_cell BK245.out 7).trans rfl, (blk_cell BK245.out 8).trans rfl, (blk_cell BK245.out 9).trans rfl, (blk_cell BK245.out 10).trans rfl, (blk_cell BK245.out 11).trans rfl⟩ (fun hHeld => ?_)
          clear hK K
          refine norm_ (a' := ?_) ?_ ?_
          rotate_left
          ·
           show Act.put _ (some 58) _ = _
           simp only [Act.put, List.setIfInBounds_toArray, List.set_cons_zero, List.set_cons_succ, i64_w, i32_w]
           rfl
          refine pure_ (i := 10) (N := some 59) (v := ?_) (a' := ?_) #[true,true,true,true,true,true,true,true,true,true,true,false,false,false] rfl rfl (any_of HT_.out (by kernel_rfl)) (fun _ _ _ h => h) (Or.inl ⟨by rfl, ?_⟩) ?_ ?_
          rotate_left
          ·
           intro w'
           go_simp
           with_reducible rfl
          rotate_left
          ·
           simp only [Act.put, List.setIfInBounds_toArray, List.set_cons_zero, List.set_cons_succ, i64_w, i32_w]
           rfl
          refine one_ (i := 11) (N := some 60) #[true,true,true,true,true,true,true,true,true,true,true,true,false,false] rfl rfl (one_of HT_.out (by kernel_rfl)) (by decide) (fun K hK => ?_)
          refine Kd.R_lit_step (Kd.int .u8) _ 5 ?hg (N := 60) ?hd (xs := ([(t274) % 256] : List Int)) (inner := [.int .u8 ((t274) % 256)]) (ok := fun _ => True) (okp := fun _ => True) ?hr ?hp (fun _ hk => hk) trivial (Below.refl _ _) (Nat.le_refl _) (by simp) ?_; (case hd => rfl); (case hg => rfl); (case hr => first | (go_simp; done) | (go_simp; rfl)); (case hp => exact (Reps.one (show Kd.M (Kd.int .u8) _ _ _ ((t274) % 256) [.int .u8 ((t274) % 256)] from rfl) (Reps.none _ _)))
          intro v276 w51 ho52 hb hg_ hnew_
          clear hg_ hnew_
          (first | rw [← Ny275.out] at ho52 | (simp only [Int.reduceToNat] at ho52; rw [← Ny275.out] at ho52))
          have n0_ := Aside0.mk (Kd.R_elder' (by (with_reducible repeat (first | apply Kd.R_alloc | apply Kd.R_drewN | apply Kd.R_drew)); exact HO_4.out) (Kd.R_base ho52) hb)
          have n1_ := Aside0.mk (Kd.R_elder' (by (with_reducible repeat (first | apply Kd.R_alloc | apply Kd.R_drewN | apply Kd.R_drew)); exact HO270.out) (Kd.R_base ho52) hb)
          have n2_ := Aside0.mk (Kd.R_elder' (by (with_reducible repeat (first | apply Kd.R_alloc | apply Kd.R_drewN | apply Kd.R_drew)); exact HO273.out) (Kd.R_base ho52) hb)
          have n3_ := Aside0.mk (Kd.R_lower (Kd.R_new' (Kd.R_new' (Kd.R_new' (Kd.R_newM (M := fun k_ => (w.heap.size ≤ k_)) ho52 (below_size (by repeat (first | (with_reducible first | exact HB.out | apply below_alloc | apply pw_below_drewN | apply below_drew1 | refine below_set ?_ GE245.out) | exact HB.out))) (fun k_ h_ => h_)) (Kd.R_lt (by (with_reducible repeat (first | apply Kd.R_alloc | apply Kd.R_drewN | apply Kd.R_drew)); exact HO_4.out))) (Kd.R_lt (by (with_reducible repeat (first | apply Kd.R_alloc | apply Kd.R_drewN | apply Kd.R_drew)); exact HO270.out))) (Kd.R_lt (by (with_reducible repeat (first | apply Kd.R_alloc | apply Kd.R_drewN | apply Kd.R_drew)); exact HO273.out))) (below_size (by repeat (first | (with_reducible first | exact HB.out | apply below_alloc | apply pw_below_drewN | apply below_drew1 | refine below_set ?_ GE245.out) | exact HB.out))))
          have n4_ := Aside0.mk (blk_below (g := gb245) (o := .cells #[.int .i64 a0_0, .int .i64 a0_1, .int .i64 a0_2, .int .u16 a0_3, .int .u16 a0_4, .int .u16 a0_5, .slice A0_6 l0_6.length c0_6, .slice A0_7 l0_7.length c0_7, .int .i64 a0_8, .int .i64 a0_9, .int .i64 a0_10, .int .i64 a0_11] 49 (0, 0)) (by (with_reducible repeat (first | refine blk_drewN ?_ _ | refine blk_drew ?_ | refine blk_alloc ?_ _)); exact BK245.out) hb)
          have n5_ := Aside0.mk (below_step (by repeat (first | (with_reducible first | exact HB.out | apply below_alloc | apply pw_below_drewN | apply below_drew1 | refine below_set ?_ GE245.out) | exact HB.out)) hb)
          clear HO_4
          clear HO270
          clear HO273
          clear BK245
          clear HB
          have HO_4 := n0_
          have HO270 := n1_
          have HO273 := n2_
          have HO277 := n3_
          have BK245 := n4_
          have HB := n5_
          clear n0_ n1_ n2_ n3_ n4_ n5_
          clear hb ho52
          obtain ⟨Ao54, co54, eo54⟩ := Kd.R_slice HO277.out
          (first | subst eo54 | (injection eo54 with f1_ f2_ f3_; have f4_ := f1_.symm; have f5_ := f3_.symm; clear f1_ f2_ f3_; subst f4_; subst f5_))
          refine hK.out _ _ ⟨(blk_cell BK245.out 0).trans rfl, (blk_cell BK245.out 1).trans rfl, (blk_cell BK245.out 2).trans rfl, (blk_cell BK245.out 3).trans rfl, (blk_cell BK245.out 4).trans rfl, (blk_cell BK245.out 5).trans rfl, (blk_cell BK245.out 6).trans rfl, (blk_cell BK245.out 7).trans rfl, (blk_cell BK245.out 8).trans rfl, (blk_cell BK245.out 9).trans rfl, (blk_cell BK245.out 10).trans rfl, (blk_cell BK245.out 11).trans rfl⟩ (fun hHeld => ?_)
          clear hK K
          refine norm_ (a' := ?_) ?_ ?_
          rotate_left
          ·
           show Act.put _ (some 60) _ = _
           simp only [Act.put, List.setIfInBounds_toArray, List.set_cons_zero, List.set_cons_succ, i64_w, i32_w]
           rfl
          refine one_ (i := 12) (N := some 61) #[true,true,true,true,true,true,true,true,true,true,true,true,true,false] rfl rfl (one_of HT_.out (by kernel_rfl)) (by decide) (fun K hK => ?_)
          refine Kd.R_append_rows_step (Kd.int .u8) (w0 := w) w.heap.size (by rfl) (.tmp 55) (.tmp 60) 30 5 (.int .u8 0) 1 rfl Try.underlying30 info5 rfl (by decide) (by omega) v272 t271 y275 _ _ _ (fun k_ => (w.heap.size ≤ k_) ∧ some k_ ≠ (.slice Ao47 y247.length co47 : Value).ownBlock ∧ some k_ ≠ (.slice Ao49 t268.length co49 : Value).ownBlock ∧ some k_ ≠ (.slice Ao54 y275.length co54 : Value).ownBlock) (fun _ => False) rfl rfl ?aO ?aR (fun _ _ h => h) (fun _ h => h.elim) ?aF ?aB ?aS ?aL ?_
          (case aR => repeat (first | exact (Kd.R_reads' HO277.out).2.2 | (with_reducible refine Kd.C_alloc ?_ _) | (with_reducible refine Kd.C_drewN ?_ _) | (with_reducible refine Kd.C_drew ?_)))
          (case aB => exact (HB.out))
          (case aF => exact (fun k_ hk => ⟨(Nat.le_trans (below_size (HB.out)) hk), Kd.fresh' (Kd.R_lt (HO_4.out)) k_ hk, Kd.fresh' (Kd.R_lt (HO270.out)) k_ hk, Kd.fresh' (Kd.R_lt (HO277.out)) k_ hk⟩))
          (case aO => exact (Kd.R_mono HO273.out (fun _ hk => ⟨hk.1.1.1.1, ⟨hk.1.1.2, ⟨hk.1.2, hk.2⟩⟩⟩)))
          (case aS => exact (below_size (HB.out)))
          (case aL => have := LMc43.out; omega)
          intro v279 w53 ho hb hg hat
          rw [← Ny278.out] at ho
          have n0_ := Aside0.mk (Kd.R_after (ok := (fun k_ => (w.heap.size ≤ k_) ∧ some k_ ≠ (.slice Ao49 t268.length co49 : Value).ownBlock ∧ some k_ ≠ (.slice Ao54 y275.length co54 : Value).ownBlock)) (Kd.R_mono HO_4.out (fun _ hk => ⟨⟨hk.1.1.1, ⟨hk.1.1.2, hk.2⟩⟩, hk.1.2⟩)) hg hat)
          have n1_ := Aside0.mk (blk_grown (g := gb245) (o := .cells #[.int .i64 a0_0, .int .i64 a0_1, .int .i64 a0_2, .int .u16 a0_3, .int .u16 a0_4, .int .u16 a0_5, .slice A0_6 l0_6.length c0_6, .slice A0_7 l0_7.length c0_7, .int .i64 a0_8, .int .i64 a0_9, .int .i64 a0_10, .int .i64 a0_11] 49 (0, 0)) (BK245.out) hg (Kd.R_ne HO273.out BK245.out (by decide)))
          have n2_ := Aside0.mk (Kd.R_after (ok := (fun k_ => (w.heap.size ≤ k_) ∧ some k_ ≠ (.slice Ao47 y247.length co47 : Value).ownBlock ∧ some k_ ≠ (.slice Ao54 y275.length co54 : Value).ownBlock)) (Kd.R_mono HO270.out (fun _ hk => ⟨⟨hk.1.1.1.1, ⟨hk.1.1.2, hk.2⟩⟩, hk.1.2⟩)) hg hat)
          have n3_ := Aside0.mk (Kd.R_after (ok := (fun k_ => (w.heap.size ≤ k_) ∧ some k_ ≠ (.slice Ao47 y247.length co47 : Value).ownBlock ∧ some k_ ≠ (.slice Ao49 t268.length co49 : Value).ownBlock)) (Kd.R_mono HO277.out (fun _ hk => ⟨⟨hk.1.1.1.1, ⟨hk.1.1.2, hk.1.2⟩⟩, hk.2⟩)) hg hat)
          have n4_ := Aside0.mk (hb)
          have n5_ := Aside0.mk (ho)
          clear HO_4
          clear BK245
          clear HO270
          clear HO277
          clear HB
          clear HO273
          have HO_4 := n0_
          have BK245 := n1_
          have HO270 := n2_
          have HO277 := n3_
          have HB := n4_
          have HO280 := n5_
          clear n0_ n1_ n2_ n3_ n4_ n5_
          clear ho hb hg hat
          refine hK.out _ _ ⟨(blk_cell BK245.out 0).trans rfl, (blk_cell BK245.out 1).trans rfl, (blk_cell BK245.out 2).trans rfl, (blk_cell BK245.out 3).trans rfl, (blk_cell BK245.out 4).trans rfl, (blk_cell BK245.out 5).trans rfl, (blk_cell BK245.out 6).trans rfl, (blk_cell BK245.out 7).trans rfl, (blk_cell BK245.out 8).trans rfl, (blk_cell BK245.out 9).trans rfl, (blk_cell BK245.out 10).trans rfl, (blk_cell BK245.out 11).trans rfl⟩ (fun hHeld => ?_)
          clear hK K
          refine norm_ (a' := ?_) ?_ ?_
          rotate_left
          ·
           show Act.put _ (some 61) _ = _
           simp only [Act.put, List.setIfInBounds_toArray, List.set_cons_zero, List.set_cons_succ, i64_w, i32_w]
           rfl
          refine pure_ (i := 13) (N := some 4) (v := ?_) (a' := ?_) #[true,true,true,true,true,true,true,true,true,true,true,true,true,true] rfl rfl (any_of HT_.out (by kernel_rfl)) (fun _ _ _ h => h) (Or.inl ⟨by rfl, ?_⟩) ?_ ?_
          rotate_left
          ·
           intro w'
           go_simp
           with_reducible rfl
          rotate_left
          ·
           simp only [Act.put, List.setIfInBounds_toArray, List.set_cons_zero, List.set_cons_succ, i64_w, i32_w]
           rfl
          refine done_ (done_of HT_.out (by kernel_rfl)) ?_
          obtain ⟨hcz55_0, hcz55_1, hcz55_2, hcz55_3, hcz55_4, hcz55_5, hcz55_6, hcz55_7, hcz55_8, hcz55_9, hcz55_10, hcz55_11⟩ := blkc12 BK245.out
          obtain ⟨hfz55_0, hfz55_1, hfz55_2, hfz55_3, hfz55_4, hfz55_5, hfz55_6, hfz55_7, hfz55_8, hfz55_9, hfz55_10, hfz55_11⟩ := blkf12 BK245.out
          try go_wp2_with (first | ((with_reducible refine gate_callee (f := 48) rfl ?_); refine goesL_ (some 65) rfl rfl Try.func48 (by kernel_rfl) rfl #[.slice A0_6 l0_6.length c0_6] rfl (by (try simp only [List.map_toArray, List.map_cons, List.map_nil]); first | done | rfl | (simp only [List.length_drop, List.length_take]; rfl)) ?_; (with_reducible refine (busbarref1_Pack.calls kj3 _ _ l0_6 t281 _ ?side1 ?side2 A44.out).mono ?_); (case side1 => repeat (first | exact (Kd.C_below HR0_6.out HB.out) | (with_reducible refine Kd.C_alloc ?_ _) | (with_reducible refine Kd.C_drewN ?_ _) | (with_reducible refine Kd.C_drew ?_))); (case side2 => exact HC0_6.out); rintro e w56 ⟨v282, rfl, ho0, hb⟩; refine ⟨_, rfl, ?_⟩; have HO283 := Aside0.mk (Kd.R_lower (Kd.R_new' (Kd.R_new' (Kd.R_new' (Kd.R_new' (Kd.R_newM (M := fun k_ => (w.heap.size ≤ k_)) ho0 (below_size (HB.out)) (fun k_ h_ => h_)) (Kd.R_lt (HO_4.out))) (Kd.R_lt (HO270.out))) (Kd.R_lt (HO277.out))) (Kd.R_lt (HO280.out))) (below_size (HB.out))); replace HO_4 := Aside0.mk (Kd.R_elder' (HO_4.out) (Kd.R_base ho0) hb); replace HO270 := Aside0.mk (Kd.R_elder' (HO270.out) (Kd.R_base ho0) hb); replace HO277 := Aside0.mk (Kd.R_elder' (HO277.out) (Kd.R_base ho0) hb); replace HO280 := Aside0.mk (Kd.R_elder' (HO280.out) (Kd.R_base ho0) hb); replace BK245 := Aside0.mk (blk_below BK245.out hb); replace HB := Aside0.mk (below_step (HB.out) hb); (try clear hb); (try clear ho0); obtain ⟨Ao58, co58, eo58⟩ := Kd.R_slice HO283.out; subst eo58) | ((with_reducible refine gate_builtin (b := .append) (xs := #[.tmp 62, .tmp 65]) rfl ?_); at_builtin; refine Kd.R_append_rows (Kd.int .u8) (w0 := w) w.heap.size rfl (.tmp 62) (.tmp 65) 30 5 (.int .u8 0) 1 rfl Try.underlying30 info5 rfl (by decide) (by omega) v279 y278 t281 _ _ _ (fun k_ => (w.heap.size ≤ k_) ∧ some k_ ≠ (.slice Ao47 y247.length co47 : Value).ownBlock ∧ some k_ ≠ (.slice Ao49 t268.length co49 : Value).ownBlock ∧ some k_ ≠ (.slice Ao54 y275.length co54 : Value).ownBlock ∧ some k_ ≠ (.slice Ao58 t281.length co58 : Value).ownBlock) (fun _ => False) rfl rfl ?aO ?aR (fun _ _ h => h) (fun _ h => h.elim) ?aF ?aB ?aS ?aL ?_; (case aR => repeat (first | exact (Kd.R_reads' HO283.out).2.2 | (with_reducible refine Kd.C_alloc ?_ _) | (with_reducible refine Kd.C_drewN ?_ _) | (with_reducible refine Kd.C_drew ?_))); (case aB => exact (HB.out)); (case aF => exact (fun k_ hk => ⟨(Nat.le_trans (below_size (HB.out)) hk), Kd.fresh' (Kd.R_lt (HO_4.out)) k_ hk, Kd.fresh' (Kd.R_lt (HO270.out)) k_ hk, Kd.fresh' (Kd.R_lt (HO277.out)) k_ hk, Kd.fresh' (Kd.R_lt (HO283.out)) k_ hk⟩)); (case aO => exact (Kd.R_mono HO280.out (fun _ hk => ⟨hk.1.1, ⟨hk.1.2.1, ⟨hk.1.2.2.1, ⟨hk.1.2.2.2, hk.2⟩⟩⟩⟩))); (case aS => exact (below_size (HB.out))); (case aL => have := LMc45.out; omega); intro v285 w57 ho hb hg hat; rw [← Ny284.out] at ho; replace HO_4 := Aside0.mk (Kd.R_after (ok := (fun k_ => (w.heap.size ≤ k_) ∧ some k_ ≠ (.slice Ao49 t268.length co49 : Value).ownBlock ∧ some k_ ≠ (.slice Ao54 y275.length co54 : Value).ownBlock ∧ some k_ ≠ (.slice Ao58 t281.length co58 : Value).ownBlock)) (Kd.R_mono HO_4.out (fun _ hk => ⟨⟨hk.1.1.1, ⟨hk.1.1.2.1, ⟨hk.1.1.2.2, hk.2⟩⟩⟩, hk.1.2⟩)) hg hat); replace BK245 := Aside0.mk (blk_grown (g := gb245) (o := .cells #[.int .i64 a0_0, .int .i64 a0_1, .int .i64 a0_2, .int .u16 a0_3, .int .u16 a0_4, .int .u16 a0_5, .slice A0_6 l0_6.length c0_6, .slice A0_7 l0_7.length c0_7, .int .i64 a0_8, .int .i64 a0_9, .int .i64 a0_10, .int .i64 a0_11] 49 (0, 0)) (BK245.out) hg (Kd.R_ne HO280.out BK245.out (by decide))); replace HO270 := Aside0.mk (Kd.R_after (ok := (fun k_ => (w.heap.size ≤ k_) ∧ some k_ ≠ (.slice Ao47 y247.length co47 : Value).ownBlock ∧ some k_ ≠ (.slice Ao54 y275.length co54 : Value).ownBlock ∧ some k_ ≠ (.slice Ao58 t281.length co58 : Value).ownBlock)) (Kd.R_mono HO270.out (fun _ hk => ⟨⟨hk.1.1.1, ⟨hk.1.1.2.1, ⟨hk.1.1.2.2, hk.2⟩⟩⟩, hk.1.2⟩)) hg hat); replace HO277 := Aside0.mk (Kd.R_after (ok := (fun k_ => (w.heap.size ≤ k_) ∧ some k_ ≠ (.slice Ao47 y247.length co47 : Value).ownBlock ∧ some k_ ≠ (.slice Ao49 t268.length co49 : Value).ownBlock ∧ some k_ ≠ (.slice Ao58 t281.length co58 : Value).ownBlock)) (Kd.R_mono HO277.out (fun _ hk => ⟨⟨hk.1.1.1, ⟨hk.1.1.2.1, ⟨hk.1.1.2.2, hk.2⟩⟩⟩, hk.1.2⟩)) hg hat); replace HO283 := Aside0.mk (Kd.R_after (ok := (fun k_ => (w.heap.size ≤ k_) ∧ some k_ ≠ (.slice Ao47 y247.length co47 : Value).ownBlock ∧ some k_ ≠ (.slice Ao49 t268.length co49 : Value).ownBlock ∧ some k_ ≠ (.slice Ao54 y275.length co54 : Value).ownBlock)) (Kd.R_mono HO283.out (fun _ hk => ⟨⟨hk.1.1.1.1.1, ⟨hk.1.1.1.2, ⟨hk.1.1.2, hk.1.2⟩⟩⟩, hk.2⟩)) hg hat); replace HB := Aside0.mk (hb); have HO286 := Aside0.mk (ho); clear HO280; clear ho hb hg hat))
          go_ret2
          exact ⟨_, by first | rfl | (simp [errW_none, errW_some] <;> rfl) | (simp [*, errW_none, errW_some] <;> rfl), Kd.R_V (Kd.R_mono HO286.out (fun _ hk => by first | exact hk.1 | exact hk)), HB.out⟩
         ·
          rw [if_neg c45] at H
          exact absurd H (by simp)
        ·
         rw [if_neg c43] at H
         exact absurd H (by simp)
       ·
        rw [if_neg c39] at H
        have c39b0 : (a0_0 == 15) = false := beq_eq_false_iff_ne.mpr c39
        have c39b1 : (a0_0 != 15) = true := bne_iff_ne.mpr c39
        by_cases c59 : a0_0 = 16
        ·
         rw [if_pos c59] at H
         have c59b0 : (a0_0 == 16) = true := beq_iff_eq.mpr c59
         have c59b1 : (a0_0 != 16) = false := bne_eq_false_iff_eq.mpr c59
         clear c59
         replace H := Option.bind_eq_some_iff.mp H
         obtain ⟨t287, A600, H⟩ := H
         have A60 := Aside0.mk A600
         clear A600
         replace H := Option.bind_eq_some_iff.mp H
         obtain ⟨t290, A610, H⟩ := H
         have A61 := Aside0.mk A610
         clear A610
         obtain ⟨y293, hy293⟩ : ∃ y_ : List Int, y_ = (([(wrap64 (2 * a0_2)) % 256] : List Int)) := ⟨_, rfl⟩
         replace H : (if t290.length + y293.length < 140737488355328 then ((busbarref5_words.f kj3 (t290 ++ y293) l0_7).bind fun t299 => (some (t299, 0))) else (none)) = some (r1, r2) := by first | (rw [hy293]; with_reducible exact H) | (have H2_ := (Option.bind_some _ _).symm.trans H; rw [hy293]; with_reducible exact H2_) | (have H2_ := (Option.bind_some _ _).symm.trans H; with_reducible exact H2_) | with_reducible exact H | (rw [hy293]; exact H) | exact H
         have Ny293 := Aside0.mk hy293
         clear hy293
         by_cases c62 : t290.length + y293.length < 140737488355328
         ·
          rw [if_pos c62] at H
          have LMc62 := Aside0.mk c62
          clear c62
          obtain ⟨y296, hy296⟩ : ∃ y_ : List Int, y_ = (t290 ++ y293) := ⟨_, rfl⟩
          replace H : ((busbarref5_words.f kj3 y296 l0_7).bind fun t299 => (some (t299, 0))) = some (r1, r2) := by first | (rw [hy296]; with_reducible exact H) | (have H2_ := (Option.bind_some _ _).symm.trans H; rw [hy296]; with_reducible exact H2_) | (have H2_ := (Option.bind_some _ _).symm.trans H; with_reducible exact H2_) | with_reducible exact H | (rw [hy296]; exact H) | exact H
          have Ny296 := Aside0.mk hy296
          clear hy296
          replace H := Option.bind_eq_some_iff.mp H
          obtain ⟨t299, A630, H⟩ := H
          have A63 := Aside0.mk A630
          clear A630
          simp only [Option.some.injEq, Prod.mk.injEq] at H
          obtain ⟨rfl, rfl⟩ := H
          obtain ⟨Ao64, co64, eo64⟩ := Kd.R_slice HO_4.out
          subst eo64
          try go_wp2
          have n0_ := Aside0.mk (Kd.R_drew HO_4.out)
          have n1_ := Aside0.mk (blk_drew BK245.out)
          have n2_ := Aside0.mk (below_drew1 HB.out)
          clear HO_4
          clear BK245
          clear HB
          have HO_4 := n0_
          have BK245 := n1_
          have HB := n2_
          clear n0_ n1_ n2_
          refine start_ (n := 18) (S := fun w' => w'.cell? ⟨gb245, 0, none⟩ = some (.int .i64 a0_0) ∧ w'.cell? ⟨gb245, 1, none⟩ = some (.int .i64 a0_1) ∧ w'.cell? ⟨gb245, 2, none⟩ = some (.int .i64 a0_2) ∧ w'.cell? ⟨gb245, 3, none⟩ = some (.int .u16 a0_3) ∧ w'.cell? ⟨gb245, 4, none⟩ = some (.int .u16 a0_4) ∧ w'.cell? ⟨gb245, 5, none⟩ = some (.int .u16 a0_5) ∧ w'.cell? ⟨gb245, 6, none⟩ = some (.slice A0_6 l0_6.length c0_6) ∧ w'.cell? ⟨gb245, 7, none⟩ = some (.slice A0_7 l0_7.length c0_7) ∧ w'.cell? ⟨gb245, 8, none⟩ = some (.int .i64 a0_8) ∧ w'.cell? ⟨gb245, 9, none⟩ = some (.int .i64 a0_9) ∧ w'.cell? ⟨gb245, 10, none⟩ = some (.int .i64 a0_10) ∧ w'.cell? ⟨gb245, 11, none⟩ = some (.int .i64 a0_11)) (ds := []) #[false,false,false,false,false,false,false,false,false,false,false,false,false,false,false,false,false,false] (by kernel_rfl) rfl rfl ⟨(blk_cell BK245.out 0).trans rfl, (blk_cell BK245.out 1).trans rfl, (blk_cell BK245.out 2).trans rfl, (blk_cell BK245.out 3).trans rfl, (blk_cell BK245.out 4).trans rfl, (blk_cell BK245.out 5).trans rfl, (blk_cell BK245.out 6).trans rfl, (blk_cell BK245.out 7).trans rfl, (blk_cell BK245.out 8).trans rfl, (blk_cell BK245.out 9).trans rfl, (blk_cell BK245.out 10).trans rfl, (blk_cell BK245.out 11).trans rfl⟩ (fun hHeld => ?_); refine with_tabW busbarref5_AskBytes.tab18 busbarref5_AskBytes.bits18 (fun HT_ HW_ => ?_)
          generalize wc.drew = w65 at HO_4 BK245 HB hHeld ⊢
          refine pure_ (i := 0) (N := some 69) (v := ?_) (a' := ?_) #[true,false,false,false,false,false,false,false,false,false,false,false,false,false,false,false,false,false] rfl rfl (any_of HT_.out (by kernel_rfl)) (fun _ _ _ h => h) (Or.inl ⟨by rfl, ?_⟩) ?_ ?_
          rotate_left
          ·
           intro w'
           go_simp
           with_reducible rfl
          rotate_left
          ·
           simp only [Act.put, List.setIfInBounds_toArray, List.set_cons_zero, List.set_cons_succ, i64_w, i32_w]
           rfl
          refine pure_ (i := 1) (N := some 70) (v := ?_) (a' := ?_) #[true,true,false,false,false,false,false,false,false,false,false,false,false,false,false,false,false,false] rfl rfl (any_of HT_.out (by kernel_rfl)) (fun _ _ _ h => h) (Or.inl ⟨by rfl, ?_⟩) ?_ ?_
          rotate_left
          ·
           intro w'
           go_simp
           with_reducible rfl
          rotate_left
          ·
           simp only [Act.put, List.setIfInBounds_toArray, List.set_cons_zero, List.set_cons_succ, i64_w, i32_w]
           rfl
          refine pure_ (i := 4) (N := some 73) (v := ?_) (a' := ?_) #[true,true,false,false,true,false,false,false,false,false,false,false,false,false,false,false,false,false] rfl rfl (any_of HT_.out (by kernel_rfl)) (fun _ _ _ h => h) (Or.inl ⟨by rfl, ?_⟩) ?_ ?_
          rotate_left
          ·
           intro w'
           go_simp
           with_reducible rfl
          rotate_left
          ·
           simp only [Act.put, List.setIfInBounds_toArray, List.set_cons_zero, List.set_cons_succ, i64_w, i32_w]
           rfl
          refine pure_ (i := 7) (N := some 76) (v := ?_) (a' := ?_) #[true,true,false,false,true,false,false,true,false,false,false,false,false,false,false,false,false,false] rfl rfl (any_of HT_.out (by kernel_rfl)) (fun _ _ _ h => h) (Or.inl ⟨by rfl, ?_⟩) ?_ ?_
          rotate_left
          ·
           intro w'
           go_simp
           with_reducible rfl
          rotate_left
          ·
           simp only [Act.put, List.setIfInBounds_toArray, List.set_cons_zero, List.set_cons_succ, i64_w, i32_w]
           rfl
          refine pure_ (i := 13) (N := some 82) (v := ?_) (a' := ?_) #[true,true,false,false,true,false,false,true,false,false,false,false,false,true,false,false,false,false] rfl rfl (any_of HT_.out (by kernel_rfl)) (fun _ _ _ h => h) (Or.inl ⟨by rfl, ?_⟩) ?_ ?_
          rotate_left
          ·
           intro w'
           go_simp
           with_reducible rfl
          rotate_left
          ·
           simp only [Act.put, List.setIfInBounds_toArray, List.set_cons_zero, List.set_cons_succ, i64_w, i32_w]
           rfl
          refine take_ (i := 2) (N := some 71) (v := ?_) (a' := ?_) #[true,true,true,false,true,false,false,true,false,false,false,false,false,true,false,false,false,false] rfl rfl (take_ofW HT_.out HW_.out (by kernel_rfl)) (fun _ _ _ h => h) (Or.inl ⟨by rfl, ?_⟩) hHeld ?_ ?_
          rotate_left
          ·
           rintro w' ⟨s0, s1, s2, s3, s4, s5, s6, s7, s8, s9, s10, s11⟩
           go_simp
           with_reducible rfl
          rotate_left
          ·
           simp only [Act.put, List.setIfInBounds_toArray, List.set_cons_zero, List.set_cons_succ, i64_w, i32_w]
           rfl
          refine take_ (i := 5) (N := some 74) (v := ?_) (a' := ?_) #[true,true,true,false,true,true,false,true,false,false,false,false,false,true,false,false,false,false] rfl rfl (take_ofW HT_.out HW_.out (by kernel_rfl)) (fun _ _ _ h => h) (Or.inl ⟨by rfl, ?_⟩) hHeld ?_ ?_
          rotate_left
          ·
           rintro w' ⟨s0, s1, s2, s3, s4, s5, s6, s7, s8, s9, s10, s11⟩
           go_simp
           with_reducible rfl
          rotate_left
          ·
           simp only [Act.put, List.setIfInBounds_toArray, List.set_cons_zero, List.set_cons_succ, i64_w, i32_w]
           rfl
          refine take_ (i := 8) (N := some 77) (v := ?_) (a' := ?_) #[true,true,true,false,true,true,false,true,true,false,false,false,false,true,false,false,false,false] rfl rfl (take_ofW HT_.out HW_.out (by kernel_rfl)) (fun _ _ _ h => h) (Or.inl ⟨by rfl, ?_⟩) hHeld ?_ ?_
          rotate_left
          ·
           rintro w' ⟨s0, s1, s2, s3, s4, s5, s6, s7, s8, s9, s10, s11⟩
           go_simp
           with_reducible rfl
          rotate_left
          ·
           simp only [Act.put, List.setIfInBounds_toArray, List.set_cons_zero, List.set_cons_succ, i64_w, i32_w]
           rfl
          refine pure_ (i := 9) (N := some 78) (v := ?_) (a' := ?_) #[true,true,true,false,true,true,false,true,true,true,false,false,false,true,false,false,false,false] rfl rfl (any_of HT_.out (by kernel_rfl)) (fun _ _ _ h => h) (Or.inl ⟨by rfl, ?_⟩) ?_ ?_
          rotate_left
          ·
           intro w'
           go_simp
           with_reducible rfl
          rotate_left
          ·
           simp only [Act.put, List.setIfInBounds_toArray, List.set_cons_zero, List.set_cons_succ, i64_w, i32_w]
           rfl
          refine pure_ (i := 10) (N := some 79) (v := ?_) (a' := ?_) #[true,true,true,false,true,true,false,true,true,true,true,false,false,true,false,false,false,false] rfl rfl (any_of HT_.out (by kernel_rfl)) (fun _ _ _ h => h) (Or.inl ⟨by rfl, ?_⟩) ?_ ?_
          rotate_left
          ·
           intro w'
           go_simp
           with_reducible rfl
          rotate_left
          ·
           simp only [Act.put, List.setIfInBounds_toArray, List.set_cons_zero, List.set_cons_succ, i64_w, i32_w]
           rfl
          refine take_ (i := 14) (N := some 83) (v := ?_) (a' := ?_) #[true,true,true,false,true,true,false,true,true,true,true,false,false,true,true,false,false,false] rfl rfl (take_ofW HT_.out HW_.out (by kernel_rfl)) (fun _ _ _ h => h) (Or.inl ⟨by rfl, ?_⟩) hHeld ?_ ?_
          rotate_left
          ·
           rintro w' ⟨s0, s1, s2, s3, s4, s5, s6, s7, s8, s9, s10, s11⟩
           go_simp
           with_reducible rfl
          rotate_left
          ·
           simp only [Act.put, List.setIfInBounds_toArray, List.set_cons_zero, List.set_cons_succ, i64_w, i32_w]
           rfl
          refine join_ (σ := Value × Value × Value) 4 #[true,true,true,true,true,true,true,true,true,true,true,true,false,true,true,false,false,false] (fun s_ => [(72, s_.1), (75, s_.2.1), (80, s_.2.2)]) (fun s_ w' => (w'.cell? ⟨gb245, 0, none⟩ = some (.int .i64 a0_0) ∧ w'.cell? ⟨gb245, 1, none⟩ = some (.int .i64 a0_1) ∧ w'.cell? ⟨gb245, 2, none⟩ = some (.int .i64 a0_2) ∧ w'.cell? ⟨gb245, 3, none⟩ = some (.int .u16 a0_3) ∧ w'.cell? ⟨gb245, 4, none⟩ = some (.int .u16 a0_4) ∧ w'.cell? ⟨gb245, 5, none⟩ = some (.int .u16 a0_5) ∧ w'.cell? ⟨gb245, 6, none⟩ = some (.slice A0_6 l0_6.length c0_6) ∧ w'.cell? ⟨gb245, 7, none⟩ = some (.slice A0_7 l0_7.length c0_7) ∧ w'.cell? ⟨gb245, 8, none⟩ = some (.int .i64 a0_8) ∧ w'.cell? ⟨gb245, 9, none⟩ = some (.int .i64 a0_9) ∧ w'.cell? ⟨gb245, 10, none⟩ = some (.int .i64 a0_10) ∧ w'.cell? ⟨gb245, 11, none⟩ = some (.int .i64 a0_11)) ∧ (Kd.R (Kd.int .u8) 5 w' w.heap.size (fun k_ => (w.heap.size ≤ k_) ∧ some k_ ≠ (s_.2.1 : Value).ownBlock ∧ some k_ ≠ (s_.2.2 : Value).ownBlock ∧ some k_ ≠ (.slice Ao64 y247.length co64 : Value).ownBlock) s_.1 t287) ∧ (Kd.R (Kd.int .u8) 5 w' w.heap.size (fun k_ => (w.heap.size ≤ k_) ∧ some k_ ≠ (s_.1 : Value).ownBlock ∧ some k_ ≠ (s_.2.2 : Value).ownBlock ∧ some k_ ≠ (.slice Ao64 y247.length co64 : Value).ownBlock) s_.2.1 t290) ∧ (Kd.R (Kd.int .u8) 5 w' w.heap.size (fun k_ => (w.heap.size ≤ k_) ∧ some k_ ≠ (s_.1 : Value).ownBlock ∧ some k_ ≠ (s_.2.1 : Value).ownBlock ∧ some k_ ≠ (.slice Ao64 y247.length co64 : Value).ownBlock) s_.2.2 y293) ∧ (Kd.R (Kd.int .u8) 5 w' w.heap.size (fun k_ => (w.heap.size ≤ k_) ∧ some k_ ≠ (s_.1 : Value).ownBlock ∧ some k_ ≠ (s_.2.1 : Value).ownBlock ∧ some k_ ≠ (s_.2.2 : Value).ownBlock) (.slice Ao64 y247.length co64) y247) ∧ (w'.heap[gb245]? = some (.cells #[.int .i64 a0_0, .int .i64 a0_1, .int .i64 a0_2, .int .u16 a0_3, .int .u16 a0_4, .int .u16 a0_5, .slice A0_6 l0_6.length c0_6, .slice A0_7 l0_7.length c0_7, .int .i64 a0_8, .int .i64 a0_9, .int .i64 a0_10, .int .i64 a0_11] 49 (0, 0))) ∧ (Below w.heap.size w w')) ?_ ?_
          rotate_left
          ·
           intro hCont
           refine two_ (i := 3) (j := 11) (Ni := some 72) (Nj := some 80) #[true,true,true,true,true,true,false,true,true,true,true,false,false,true,true,false,false,false] #[true,true,true,false,true,true,false,true,true,true,true,true,false,true,true,false,false,false] rfl rfl rfl rfl (two_of HT_.out (by kernel_rfl)) (by decide) (by decide) (fun K hK => ?_) (fun K hK => ?_)
           ·
            skip
            refine goes_ Try.func46 (by kernel_rfl) rfl #[.slice Ao64 y247.length co64, .int .i64 a0_1] (by rfl) rfl rfl (by (try simp only [List.map_toArray, List.map_cons, List.map_nil]); first | done | rfl | (simp only [List.length_drop, List.length_take]; rfl)) ?_
            with_reducible refine (busbarref5_two.calls _ _ y247 a0_1 t287 _ ?side1 ?side2 A60.out).mono ?_
            (case side1 => repeat (first | exact (Kd.R_reads' HO_4.out).2.2 | (with_reducible refine Kd.C_alloc ?_ _) | (with_reducible refine Kd.C_drewN ?_ _) | (with_reducible refine Kd.C_drew ?_)))
            (case side2 => exact (Kd.R_reads' HO_4.out).2.1)
            rintro e w66 ⟨v288, rfl, ho0, hb⟩
            refine ⟨_, rfl, ?_⟩
            have n0_ := Aside0.mk (Kd.R_elder' (HO_4.out) (Kd.R_base ho0) hb)
            have n1_ := Aside0.mk (Kd.R_lower (Kd.R_new' (Kd.R_newM (M := fun k_ => (w.heap.size ≤ k_)) ho0 (below_size (HB.out)) (fun k_ h_ => h_)) (Kd.R_lt (HO_4.out))) (below_size (HB.out)))
            have n2_ := Aside0.mk (blk_below BK245.out hb)
            have n3_ := Aside0.mk (below_step (HB.out) hb)
            clear HO_4
            clear BK245
            clear HB
            have HO_4 := n0_
            have HO289 := n1_
            have BK245 := n2_
            have HB := n3_
            clear n0_ n1_ n2_ n3_
            (try clear hb)
            (try clear hb2)
            (try clear hk)
            (try clear hi)
            (try clear ho0)
            obtain ⟨Ao67, co67, eo67⟩ := Kd.R_slice HO289.out
            (first | subst eo67 | (injection eo67 with f1_ f2_ f3_; have f4_ := f1_.symm; have f5_ := f3_.symm; clear f1_ f2_ f3_; subst f4_; subst f5_))
            refine hK.out _ _ ⟨(blk_cell BK245.out 0).trans rfl, (blk_cell BK245.out 1).trans rfl, (blk_cell BK245.out 2).trans rfl, (blk_cell BK245.out 3).trans rfl, (blk_cell BK245.out 4).trans rfl, (blk_cell BK245.out 5).trans rfl, (blk_cell BK245.out 6).trans rfl, (blk_cell BK245.out 7).trans rfl, (blk_cell BK245.out 8).trans rfl, (blk_cell BK245.out 9).trans rfl, (blk_cell BK245.out 10).trans rfl, (blk_cell BK245.out 11).trans rfl⟩ (fun hHeld => ?_)
            clear hK K
            refine norm_ (a' := ?_) ?_ ?_
            rotate_left
            ·
             show Act.put _ (some 72) _ = _
             simp only [Act.put, List.setIfInBounds_toArray, List.set_cons_zero, List.set_cons_succ, i64_w, i32_w]
             rfl
            refine two_ (i := 6) (j := 11) (Ni := some 75) (Nj := some 80) #[true,true,true,true,true,true,true,true,true,true,true,false,false,true,true,false,false,false] #[true,true,true,true,true,true,false,true,true,true,true,true,false,true,true,false,false,false] rfl rfl rfl rfl (two_of HT_.out (by kernel_rfl)) (by decide) (by decide) (fun K hK => ?_) (fun K hK => ?_)
            ·
             skip
             refine goes_ Try.func46 (by kernel_rfl) rfl #[.slice Ao67 t287.length co67, .int .i64 a0_2] (by rfl) rfl rfl (by (try simp only [List.map_toArray, List.map_cons, List.map_nil]); first | done | rfl | (simp only [List.length_drop, List.length_take]; rfl)) ?_
             with_reducible refine (busbarref5_two.calls _ _ t287 a0_2 t290 _ ?side1 ?side2 A61.out).mono ?_
             (case side1 => repeat (first | exact (Kd.R_reads' HO289.out).2.2 | (with_reducible refine Kd.C_alloc ?_ _) | (with_reducible refine Kd.C_drewN ?_ _) | (with_reducible refine Kd.C_drew ?_)))
             (case side2 => exact (Kd.R_reads' HO289.out).2.1)
             rintro e w68 ⟨v291, rfl, ho0, hb⟩
             refine ⟨_, rfl, ?_⟩
             have n0_ := Aside0.mk (Kd.R_elder' (HO_4.out) (Kd.R_base ho0) hb)
             have n1_ := Aside0.mk (Kd.R_elder' (HO289.out) (Kd.R_base ho0) hb)
             have n2_ := Aside0.mk (Kd.R_lower (Kd.R_new' (Kd.R_new' (Kd.R_newM (M := fun k_ => (w.heap.size ≤ k_)) ho0 (below_size (HB.out)) (fun k_ h_ => h_)) (Kd.R_lt (HO_4.out))) (Kd.R_lt (HO289.out))) (below_size (HB.out)))
             have n3_ := Aside0.mk (blk_below BK245.out hb)
             have n4_ := Aside0.mk (below_step (HB.out) hb)
             clear HO_4
             clear HO289
             clear BK245
             clear HB
             have HO_4 := n0_
             have HO289 := n1_
             have HO292 := n2_
             have BK245 := n3_
             have HB := n4_
             clear n0_ n1_ n2_ n3_ n4_
             (try clear hb)
             (try clear hb2)
             (try clear hk)
             (try clear hi)
             (try clear ho0)
             refine hK.out _ _ ⟨(blk_cell BK245.out 0).trans rfl, (blk_cell BK245.out 1).trans rfl, (blk_cell BK245.out 2).trans rfl, (blk_cell BK245.out 3).trans rfl, (blk_cell BK245.out 4).trans rfl, (blk_cell BK245.out 5).trans rfl, (blk_cell BK245.out 6).trans rfl, (blk_cell BK245.out 7).trans rfl, (blk_cell BK245.out 8).trans rfl, (blk_cell BK245.out 9).trans rfl, (blk_cell BK245.out 10).trans rfl, (blk_cell BK245.out 11).trans rfl⟩ (fun hHeld => ?_)
             clear hK K
             refine norm_ (a' := ?_) ?_ ?_
             rotate_left
             ·
              show Act.put _ (some 75) _ = _
              simp only [Act.put, List.setIfInBounds_toArray, List.set_cons_zero, List.set_cons_succ, i64_w, i32_w]
              rfl
             refine one_ (i := 11) (N := some 80) #[true,true,true,true,true,true,true,true,true,true,true,true,false,true,true,false,false,false] rfl rfl (one_of HT_.out (by kernel_rfl)) (by decide) (fun K hK => ?_)
             refine Kd.R_lit_step (Kd.int .u8) _ 5 ?hg (N := 80) ?hd (xs := ([(wrap64 (2 * a0_2)) % 256] : List Int)) (inner := [.int .u8 ((wrap64 (2 * a0_2)) % 256)]) (ok := fun _ => True) (okp := fun _ => True) ?hr ?hp (fun _ hk => hk) trivial (Below.refl _ _) (Nat.le_refl _) (by simp) ?_; (case hd => rfl); (case hg => rfl); (case hr => first | (go_simp; done) | (go_simp; rfl)); (case hp => exact (Reps.one (show Kd.M (Kd.int .u8) _ _ _ ((wrap64 (2 * a0_2)) % 256) [.int .u8 ((wrap64 (2 * a0_2)) % 256)] from rfl) (Reps.none _ _)))
             intro v294 w69 ho70 hb hg_ hnew_
             clear hg_ hnew_
             (first | rw [← Ny293.out] at ho70 | (simp only [Int.reduceToNat] at ho70; rw [← Ny293.out] at ho70))
             have n0_ := Aside0.mk (Kd.R_elder' (HO_4.out) (Kd.R_base ho70) hb)
             have n1_ := Aside0.mk (Kd.R_elder' (HO289.out) (Kd.R_base ho70) hb)
             have n2_ := Aside0.mk (Kd.R_elder' (HO292.out) (Kd.R_base ho70) hb)
             have n3_ := Aside0.mk (Kd.R_lower (Kd.R_new' (Kd.R_new' (Kd.R_new' (Kd.R_newM (M := fun k_ => (w.heap.size ≤ k_)) ho70 (below_size (HB.out)) (fun k_ h_ => h_)) (Kd.R_lt (HO_4.out))) (Kd.R_lt (HO289.out))) (Kd.R_lt (HO292.out))) (below_size (HB.out)))
             have n4_ := Aside0.mk (blk_below BK245.out hb)
             have n5_ := Aside0.mk (below_step (HB.out) hb)
             clear HO_4
             clear HO289
             clear HO292
             clear BK245
             clear HB
             have HO_4 := n0_
             have HO289 := n1_
             have HO292 := n2_
             have HO295 := n3_
             have BK245 := n4_
             have HB := n5_
             clear n0_ n1_ n2_ n3_ n4_ n5_
             clear hb ho70
             refine hK.out _ _ ⟨(blk_cell BK245.out 0).trans rfl, (blk_cell BK245.out 1).trans rfl, (blk_cell BK245.out 2).trans rfl, (blk_cell BK245.out 3).trans rfl, (blk_cell BK245.out 4).trans rfl, (blk_cell BK245.out 5).trans rfl, (blk_cell BK245.out 6).trans rfl, (blk_cell BK245.out 7).trans rfl, (blk_cell BK245.out 8).trans rfl, (blk_cell BK245.out 9).trans rfl, (blk_cell BK245.out 10).trans rfl, (blk_cell BK245.out 11).trans rfl⟩ (fun hHeld => ?_)
             clear hK K
             refine norm_ (a' := ?_) ?_ ?_
             rotate_left
             ·
              show Act.put _ (some 80) _ = _
              simp only [Act.put, List.setIfInBounds_toArray, List.set_cons_zero, List.set_cons_succ, i64_w, i32_w]
              rfl
             exact norm_ (by simp only [putAll, Act.put, List.setIfInBounds_toArray, List.set_cons_zero, List.set_cons_succ]) (hCont (.slice Ao67 t287.length co67, v291, v294) _ ⟨hHeld, (Kd.R_mono HO289.out (fun _ hk => ⟨hk.1.1.1.1, ⟨hk.1.2, ⟨hk.2, hk.1.1.2⟩⟩⟩)), (Kd.R_mono HO292.out (fun _ hk => ⟨hk.1.1.1.1, ⟨hk.1.2, ⟨hk.2, hk.1.1.2⟩⟩⟩)), (Kd.R_mono HO295.out (fun _ hk => ⟨hk.1.1.1.1, ⟨hk.1.2, ⟨hk.2, hk.1.1.2⟩⟩⟩)), (Kd.R_mono HO_4.out (fun _ hk => ⟨hk.1.1.1, ⟨hk.1.1.2, ⟨hk.1.2, hk.2⟩⟩⟩)), (BK245.out), (HB.out)⟩)
            ·
             skip
             refine Kd.R_lit_step (Kd.int .u8) _ 5 ?hg (N := 80) ?hd (xs := ([(wrap64 (2 * a0_2)) % 256] : List Int)) (inner := [.int .u8 ((wrap64 (2 * a0_2)) % 256)]) (ok := fun _ => True) (okp := fun _ => True) ?hr ?hp (fun _ hk => hk) trivial (Below.refl _ _) (Nat.le_refl _) (by simp) ?_; (case hd => rfl); (case hg => rfl); (case hr => first | (go_simp; done) | (go_simp; rfl)); (case hp => exact (Reps.one (show Kd.M (Kd.int .u8) _ _ _ ((wrap64 (2 * a0_2)) % 256) [.int .u8 ((wrap64 (2 * a0_2)) % 256)] from rfl) (Reps.none _ _)))
             intro v294 w67 ho68 hb hg_ hnew_
             clear hg_ hnew_
             (first | rw [← Ny293.out] at ho68 | (simp only [Int.reduceToNat] at ho68; rw [← Ny293.out] at ho68))
             have n0_ := Aside0.mk (Kd.R_elder' (HO_4.out) (Kd.R_base ho68) hb)
             have n1_ := Aside0.mk (Kd.R_elder' (HO289.out) (Kd.R_base ho68) hb)
             have n2_ := Aside0.mk (Kd.R_lower (Kd.R_new' (Kd.R_new' (Kd.R_newM (M := fun k_ => (w.heap.size ≤ k_)) ho68 (below_size (HB.out)) (fun k_ h_ => h_)) (Kd.R_lt (HO_4.out))) (Kd.R_lt (HO289.out))) (below_size (HB.out)))
             have n3_ := Aside0.mk (blk_below BK245.out hb)
             have n4_ := Aside0.mk (below_step (HB.out) hb)
             clear HO_4
             clear HO289
             clear BK245
             clear HB
             have HO_4 := n0_
             have HO289 := n1_
             have HO295 := n2_
             have BK245 := n3_
             have HB := n4_
             clear n0_ n1_ n2_ n3_ n4_
             clear hb ho68
             obtain ⟨Ao69, co69, eo69⟩ := Kd.R_slice HO289.out
             (first | subst eo69 | (injection eo69 with f1_ f2_ f3_; have f4_ := f1_.symm; have f5_ := f3_.symm; clear f1_ f2_ f3_; subst f4_; subst f5_))
             refine hK.out _ _ ⟨(blk_cell BK245.out 0).trans rfl, (blk_cell BK245.out 1).trans rfl, (blk_cell BK245.out 2).trans rfl, (blk_cell BK245.out 3).trans rfl, (blk_cell BK245.out 4).trans rfl, (blk_cell BK245.out 5).trans rfl, (blk_cell BK245.out 6).trans rfl, (blk_cell BK245.out 7).trans rfl, (blk_cell BK245.out 8).trans rfl, (blk_cell BK245.out 9).trans rfl, (blk_cell BK245.out 10).trans rfl, (blk_cell BK245.out 11).trans rfl⟩ (fun hHeld => ?_)
             clear hK K
             refine norm_ (a' := ?_) ?_ ?_
             rotate_left
             ·
              show Act.put _ (some 80) _ = _
              simp only [Act.put, List.setIfInBounds_toArray, List.set_cons_zero, List.set_cons_succ, i64_w, i32_w]
              rfl
             refine one_ (i := 6) (N := some 75) #[true,true,true,true,true,true,true,true,true,true,true,true,false,true,true,false,false,false] rfl rfl (one_of HT_.out (by kernel_rfl)) (by decide) (fun K hK => ?_)
             refine goes_ Try.func46 (by kernel_rfl) rfl #[.slice Ao69 t287.length co69, .int .i64 a0_2] (by rfl) rfl rfl (by (try simp only [List.map_toArray, List.map_cons, List.map_nil]); first | done | rfl | (simp only [List.length_drop, List.length_take]; rfl)) ?_
             with_reducible refine (busbarref5_two.calls _ _ t287 a0_2 t290 _ ?side1 ?side2 A61.out).mono ?_
             (case side1 => repeat (first | exact (Kd.R_reads' HO289.out).2.2 | (with_reducible refine Kd.C_alloc ?_ _) | (with_reducible refine Kd.C_drewN ?_ _) | (with_reducible refine Kd.C_drew ?_)))
             (case side2 => exact (Kd.R_reads' HO289.out).2.1)
             rintro e w70 ⟨v291, rfl, ho0, hb⟩
             refine ⟨_, rfl, ?_⟩
             have n0_ := Aside0.mk (Kd.R_elder' (HO_4.out) (Kd.R_base ho0) hb)
             have n1_ := Aside0.mk (Kd.R_elder' (HO289.out) (Kd.R_base ho0) hb)
             have n2_ := Aside0.mk (Kd.R_elder' (HO295.out) (Kd.R_base ho0) hb)
             have n3_ := Aside0.mk (Kd.R_lower (Kd.R_new' (Kd.R_new' (Kd.R_new' (Kd.R_newM (M := fun k_ => (w.heap.size ≤ k_)) ho0 (below_size (HB.out)) (fun k_ h_ => h_)) (Kd.R_lt (HO_4.out))) (Kd.R_lt (HO289.out))) (Kd.R_lt (HO295.out))) (below_size (HB.out)))
             have n4_ := Aside0.mk (blk_below BK245.out hb)
             have n5_ := Aside0.mk (below_step (HB.out) hb)
             clear HO_4
             clear HO289
             clear HO295
             clear BK245
             clear HB
             have HO_4 := n0_
             have HO289 := n1_
             have HO295 := n2_
             have HO292 := n3_
             have BK245 := n4_
             have HB := n5_
             clear n0_ n1_ n2_ n3_ n4_ n5_
             (try clear hb)
             (try clear hb2)
             (try clear hk)
             (try clear hi)
             (try clear ho0)
             refine hK.out _ _ ⟨(blk_cell BK245.out 0).trans rfl, (blk_cell BK245.out 1).trans rfl, (blk_cell BK245.out 2).trans rfl, (blk_cell BK245.out 3).trans rfl, (blk_cell BK245.out 4).trans rfl, (blk_cell BK245.out 5).trans rfl, (blk_cell BK245.out 6).trans rfl, (blk_cell BK245.out 7).trans rfl, (blk_cell BK245.out 8).trans rfl, (blk_cell BK245.out 9).trans rfl, (blk_cell BK245.out 10).trans rfl, (blk_cell BK245.out 11).trans rfl⟩ (fun hHeld => ?_)
             clear hK K
             refine norm_ (a' := ?_) ?_ ?_
             rotate_left
             ·
              show Act.put _ (some 75) _ = _
              simp only [Act.put, List.setIfInBounds_toArray, List.set_cons_zero, List.set_cons_succ, i64_w, i32_w]
              rfl
             exact norm_ (by simp only [putAll, Act.put, List.setIfInBounds_toArray, List.set_cons_zero, List.set_cons_succ]) (hCont (.slice Ao69 t287.length co69, v291, v294) _ ⟨hHeld, (Kd.R_mono HO289.out (fun _ hk => ⟨hk.1.1.1.1, ⟨hk.2, ⟨hk.1.2, hk.1.1.2⟩⟩⟩)), (Kd.R_mono HO292.out (fun _ hk => ⟨hk.1.1.1.1, ⟨hk.1.2, ⟨hk.2, hk.1.1.2⟩⟩⟩)), (Kd.R_mono HO295.out (fun _ hk => ⟨hk.1.1.1.1, ⟨hk.1.2, ⟨hk.2, hk.1.1.2⟩⟩⟩)), (Kd.R_mono HO_4.out (fun _ hk => ⟨hk.1.1.1, ⟨hk.1.1.2, ⟨hk.2, hk.1.2⟩⟩⟩)), (BK245.out), (HB.out)⟩)
           ·
            skip
            refine Kd.R_lit_step (Kd.int .u8) _ 5 ?hg (N := 80) ?hd (xs := ([(wrap64 (2 * a0_2)) % 256] : List Int)) (inner := [.int .u8 ((wrap64 (2 * a0_2)) % 256)]) (ok := fun _ => True) (okp := fun _ => True) ?hr ?hp (fun _ hk => hk) trivial (Below.refl _ _) (Nat.le_refl _) (by simp) ?_; (case hd => rfl); (case hg => rfl); (case hr => first | (go_simp; done) | (go_simp; rfl)); (case hp => exact (Reps.one (show Kd.M (Kd.int .u8) _ _ _ ((wrap64 (2 * a0_2)) % 256) [.int .u8 ((wrap64 (2 * a0_2)) % 256)] from rfl) (Reps.none _ _)))
            intro v294 w66 ho67 hb hg_ hnew_
            clear hg_ hnew_
            (first | rw [← Ny293.out] at ho67 | (simp only [Int.reduceToNat] at ho67; rw [← Ny293.out] at ho67))
            have n0_ := Aside0.mk (Kd.R_elder' (HO_4.out) (Kd.R_base ho67) hb)
            have n1_ := Aside0.mk (Kd.R_lower (Kd.R_new' (Kd.R_newM (M := fun k_ => (w.heap.size ≤ k_)) ho67 (below_size (HB.out)) (fun k_ h_ => h_)) (Kd.R_lt (HO_4.out))) (below_size (HB.out)))
            have n2_ := Aside0.mk (blk_below BK245.out hb)
            have n3_ := Aside0.mk (below_step (HB.out) hb)
            clear HO_4
            clear BK245
            clear HB
            have HO_4 := n0_
            have HO295 := n1_
            have BK245 := n2_
            have HB := n3_
            clear n0_ n1_ n2_ n3_
            clear hb ho67
            refine hK.out _ _ ⟨(blk_cell BK245.out 0).trans rfl, (blk_cell BK245.out 1).trans rfl, (blk_cell BK245.out 2).trans rfl, (blk_cell BK245.out 3).trans rfl, (blk_cell BK245.out 4).trans rfl, (blk_cell BK245.out 5).trans rfl, (blk_cell BK245.out 6).trans rfl, (blk_cell BK245.out 7).trans rfl, (blk_cell BK245.out 8).trans rfl, (blk_cell BK245.out 9).trans rfl, (blk_cell BK245.out 10).trans rfl, (blk_cell BK245.out 11).trans rfl⟩ (fun hHeld => ?_)
            clear hK K
            refine norm_ (a' := ?_) ?_ ?_
            rotate_left
            ·
             show Act.put _ (some 80) _ = _
             simp only [Act.put, List.setIfInBounds_toArray, List.set_cons_zero, List.set_cons_succ, i64_w, i32_w]
             rfl
            refine one_ (i := 3) (N := some 72) #[true,true,true,true,true,true,false,true,true,true,true,true,false,true,true,false,false,false] rfl rfl (one_of HT_.out (by kernel_rfl)) (by decide) (fun K hK => ?_)
            refine goes_ Try.func46 (by kernel_rfl) rfl #[.slice Ao64 y247.length co64, .int .i64 a0_1] (by rfl) rfl rfl (by (try simp only [List.map_toArray, List.map_cons, List.map_nil]); first | done | rfl | (simp only [List.length_drop, List.length_take]; rfl)) ?_
            with_reducible refine (busbarref5_two.calls _ _ y247 a0_1 t287 _ ?side1 ?side2 A60.out).mono ?_
            (case side1 => repeat (first | exact (Kd.R_reads' HO_4.out).2.2 | (with_reducible refine Kd.C_alloc ?_ _) | (with_reducible refine Kd.C_drewN ?_ _) | (with_reducible refine Kd.C_drew ?_)))
            (case side2 => exact (Kd.R_reads' HO_4.out).2.1)
            rintro e w68 ⟨v288, rfl, ho0, hb⟩
            refine ⟨_, rfl, ?_⟩
            have n0_ := Aside0.mk (Kd.R_elder' (HO_4.out) (Kd.R_base ho0) hb)
            have n1_ := Aside0.mk (Kd.R_elder' (HO295.out) (Kd.R_base ho0) hb)
            have n2_ := Aside0.mk (Kd.R_lower (Kd.R_new' (Kd.R_new' (Kd.R_newM (M := fun k_ => (w.heap.size ≤ k_)) ho0 (below_size (HB.out)) (fun k_ h_ => h_)) (Kd.R_lt (HO_4.out))) (Kd.R_lt (HO295.out))) (below_size (HB.out)))
            have n3_ := Aside0.mk (blk_below BK245.out hb)
            have n4_ := Aside0.mk (below_step (HB.out) hb)
            clear HO_4
            clear HO295
            clear BK245
            clear HB
            have HO_4 := n0_
            have HO295 := n1_
            have HO289 := n2_
            have BK245 := n3_
            have HB := n4_
            clear n0_ n1_ n2_ n3_ n4_
            (try clear hb)
            (try clear hb2)
            (try clear hk)
            (try clear hi)
            (try clear ho0)
            obtain ⟨Ao69, co69, eo69⟩ := Kd.R_slice HO289.out
            (first | subst eo69 | (injection eo69 with f1_ f2_ f3_; have f4_ := f1_.symm; have f5_ := f3_.symm; clear f1_ f2_ f3_; subst f4_; subst f5_))
            refine hK.out _ _ ⟨(blk_cell BK245.out 0).trans rfl, (blk_cell BK245.out 1).trans rfl, (blk_cell BK245.out 2).trans rfl, (blk_cell BK245.out 3).trans rfl, (blk_cell BK245.out 4).trans rfl, (blk_cell BK245.out 5).trans rfl, (blk_cell BK245.out 6).trans rfl, (blk_cell BK245.out 7).trans rfl, (blk_cell BK245.out 8).trans rfl, (blk_cell BK245.out 9).trans rfl, (blk_cell BK245.out 10).trans rfl, (blk_cell BK245.out 11).trans rfl⟩ (fun hHeld => ?_)
            clear hK K
            refine norm_ (a' := ?_) ?_ ?_
            rotate_left
            ·
             show Act.put _ (some 72) _ = _
             simp only [Act.put, List.setIfInBounds_toArray, List.set_cons_zero, List.set_cons_succ, i64_w, i32_w]
             rfl
            refine one_ (i := 6) (N := some 75) #[true,true,true,true,true,true,true,true,true,true,true,true,false,true,true,false,false,false] rfl rfl (one_of HT_.out (by kernel_rfl)) (by decide) (fun K hK => ?_)
            refine goes_ Try.func46 (by kernel_rfl) rfl #[.slice Ao69 t287.length co69, .int .i64 a0_2] (by rfl) rfl rfl (by (try simp only [List.map_toArray, List.map_cons, List.map_nil]); first | done | rfl | (simp only [List.length_drop, List.length_take]; rfl)) ?_
            with_reducible refine (busbarref5_two.calls _ _ t287 a0_2 t290 _ ?side1 ?side2 A61.out).mono ?_
            (case side1 => repeat (first | exact (Kd.R_reads' HO289.out).2.2 | (with_reducible refine Kd.C_alloc ?_ _) | (with_reducible refine Kd.C_drewN ?_ _) | (with_reducible refine Kd.C_drew ?_)))
            (case side2 => exact (Kd.R_reads' HO289.out).2.1)
            rintro e w70 ⟨v291, rfl, ho0, hb⟩
            refine ⟨_, rfl, ?_⟩
            have n0_ := Aside0.mk (Kd.R_elder' (HO_4.out) (Kd.R_base ho0) hb)
            have n1_ := Aside0.mk (Kd.R_elder' (HO295.out) (Kd.R_base ho0) hb)
            have n2_ := Aside0.mk (Kd.R_elder' (HO289.out) (Kd.R_base ho0) hb)
            have n3_ := Aside0.mk (Kd.R_lower (Kd.R_new' (Kd.R_new' (Kd.R_new' (Kd.R_newM (M := fun k_ => (w.heap.size ≤ k_)) ho0 (below_size (HB.out)) (fun k_ h_ => h_)) (Kd.R_lt (HO_4.out))) (Kd.R_lt (HO295.out))) (Kd.R_lt (HO289.out))) (below_size (HB.out)))
            have n4_ := Aside0.mk (blk_below BK245.out hb)
            have n5_ := Aside0.mk (below_step (HB.out) hb)
            clear HO_4
            clear HO295
            clear HO289
            clear BK245
            clear HB
            have HO_4 := n0_
            have HO295 := n1_
            have HO289 := n2_
            have HO292 := n3_
            have BK245 := n4_
            have HB := n5_
            clear n0_ n1_ n2_ n3_ n4_ n5_
            (try clear hb)
            (try clear hb2)
            (try clear hk)
            (try clear hi)
            (try clear ho0)
            refine hK.out _ _ ⟨(blk_cell BK245.out 0).trans rfl, (blk_cell BK245.out 1).trans rfl, (blk_cell BK245.out 2).trans rfl, (blk_cell BK245.out 3).trans rfl, (blk_cell BK245.out 4).trans rfl, (blk_cell BK245.out 5).trans rfl, (blk_cell BK245.out 6).trans rfl, (blk_cell BK245.out 7).trans rfl, (blk_cell BK245.out 8).trans rfl, (blk_cell BK245.out 9).trans rfl, (blk_cell BK245.out 10).trans rfl, (blk_cell BK245.out 11).trans rfl⟩ (fun hHeld => ?_)
            clear hK K
            refine norm_ (a' := ?_) ?_ ?_
            rotate_left
            ·
             show Act.put _ (some 75) _ = _
             simp only [Act.put, List.setIfInBounds_toArray, List.set_cons_zero, List.set_cons_succ, i64_w, i32_w]
             rfl
            exact norm_ (by simp only [putAll, Act.put, List.setIfInBounds_toArray, List.set_cons_zero, List.set_cons_succ]) (hCont (.slice Ao69 t287.length co69, v291, v294) _ ⟨hHeld, (Kd.R_mono HO289.out (fun _ hk => ⟨hk.1.1.1.1, ⟨hk.2, ⟨hk.1.2, hk.1.1.2⟩⟩⟩)), (Kd.R_mono HO292.out (fun _ hk => ⟨hk.1.1.1.1, ⟨hk.2, ⟨hk.1.2, hk.1.1.2⟩⟩⟩)), (Kd.R_mono HO295.out (fun _ hk => ⟨hk.1.1.1.1, ⟨hk.1.2, ⟨hk.2, hk.1.1.2⟩⟩⟩)), (Kd.R_mono HO_4.out (fun _ hk => ⟨hk.1.1.1, ⟨hk.1.2, ⟨hk.2, hk.1.1.2⟩⟩⟩)), (BK245.out), (HB.out)⟩)
          rintro ⟨v288, v291, v294⟩ w71 ⟨hS_, h0_, h1_, h2_, h3_, h4_, h5_⟩
          have n0_ : Aside0 (Kd.R (Kd.int .u8) 5 w71 w.heap.size (fun k_ => (w.heap.size ≤ k_) ∧ some k_ ≠ (v291 : Value).ownBlock ∧ some k_ ≠ (v294 : Value).ownBlock ∧ some k_ ≠ (.slice Ao64 y247.length co64 : Value).ownBlock) v288 t287) := ⟨h0_⟩
          have n1_ : Aside0 (Kd.R (Kd.int .u8) 5 w71 w.heap.size (fun k_ => (w.heap.size ≤ k_) ∧ some k_ ≠ (v288 : Value).ownBlock ∧ some k_ ≠ (v294 : Value).ownBlock ∧ some k_ ≠ (.slice Ao64 y247.length co64 : Value).ownBlock) v291 t290) := ⟨h1_⟩
          have n2_ : Aside0 (Kd.R (Kd.int .u8) 5 w71 w.heap.size (fun k_ => (w.heap.size ≤ k_) ∧ some k_ ≠ (v288 : Value).ownBlock ∧ some k_ ≠ (v291 : Value).ownBlock ∧ some k_ ≠ (.slice Ao64 y247.length co64 : Value).ownBlock) v294 y293) := ⟨h2_⟩
          have n3_ : Aside0 (Kd.R (Kd.int .u8) 5 w71 w.heap.size (fun k_ => (w.heap.size ≤ k_) ∧ some k_ ≠ (v288 : Value).ownBlock ∧ some k_ ≠ (v291 : Value).ownBlock ∧ some k_ ≠ (v294 : Value).ownBlock) (.slice Ao64 y247.length co64) y247) := ⟨h3_⟩
          have n4_ : Aside0 (w71.heap[gb245]? = some (.cells #[.int .i64 a0_0, .int .i64 a0_1, .int .i64 a0_2, .int .u16 a0_3, .int .u16 a0_4, .int .u16 a0_5, .slice A0_6 l0_6.length c0_6, .slice A0_7 l0_7.length c0_7, .int .i64 a0_8, .int .i64 a0_9, .int .i64 a0_10, .int .i64 a0_11] 49 (0, 0))) := ⟨h4_⟩
          have n5_ : Aside0 (Below w.heap.size w w71) := ⟨h5_⟩
          clear HO_4
          clear BK245
          clear HB
          clear h0_ h1_ h2_ h3_ h4_ h5_
          have HO289 := n0_
          have HO292 := n1_
          have HO295 := n2_
          have HO_4 := n3_
          have BK245 := n4_
          have HB := n5_
          clear n0_ n1_ n2_ n3_ n4_ n5_
          have hHeld : w71.cell? ⟨gb245, 0, none⟩ = some (.int .i64 a0_0) ∧ w71.cell? ⟨gb245, 1, none⟩ = some (.int .i64 a0_1) ∧ w71.cell? ⟨gb245, 2, none⟩ = some (.int .i64 a0_2) ∧ w71.cell? ⟨gb245, 3, none⟩ = some (.int .u16 a0_3) ∧ w71.cell? ⟨gb245, 4, none⟩ = some (.int .u16 a0_4) ∧ w71.cell? ⟨gb245, 5, none⟩ = some (.int .u16 a0_5) ∧ w71.cell? ⟨gb245, 6, none⟩ = some (.slice A0_6 l0_6.length c0_6) ∧ w71.cell? ⟨gb245, 7, none⟩ = some (.slice A0_7 l0_7.length c0_7) ∧ w71.cell? ⟨gb245, 8, none⟩ = some (.int .i64 a0_8) ∧ w71.cell? ⟨gb245, 9, none⟩ = some (.int .i64 a0_9) ∧ w71.cell? ⟨gb245, 10, none⟩ = some (.int .i64 a0_10) ∧ w71.cell? ⟨gb245, 11, none⟩ = some (.int .i64 a0_11) := hS_
          obtain ⟨Ao73, co73, eo73⟩ := Kd.R_slice HO295.out
          (first | subst eo73 | (injection eo73 with f1_ f2_ f3_; have f4_ := f1_.symm; have f5_ := f3_.symm; clear f1_ f2_ f3_; subst f4_; subst f5_))
          refine norm_ (a' := ?_) ?_ ?_
          rotate_left
          ·
           simp only [putAll, Act.put, List.setIfInBounds_toArray, List.set_cons_zero, List.set_cons_succ]
           rfl
          refine one_ (i := 12) (N := some 81) #[true,true,true,true,true,true,true,true,true,true,true,true,true,true,true,false,false,false] rfl rfl (one_of HT_.out (by kernel_rfl)) (by decide) (fun K hK => ?_)
          refine Kd.R_append_rows_step (Kd.int .u8) (w0 := w) w.heap.size (by rfl) (.tmp 75) (.tmp 80) 30 5 (.int .u8 0) 1 rfl Try.underlying30 info5 rfl (by decide) (by omega) v291 t290 y293 _ _ _ (fun k_ => (w.heap.size ≤ k_) ∧ some k_ ≠ (.slice Ao64 y247.length co64 : Value).ownBlock ∧ some k_ ≠ (v288 : Value).ownBlock ∧ some k_ ≠ (.slice Ao73 y293.length co73 : Value).ownBlock) (fun _ => False) rfl rfl ?aO ?aR (fun _ _ h => h) (fun _ h => h.elim) ?aF ?aB ?aS ?aL ?_
          (case aR => repeat (first | exact (Kd.R_reads' HO295.out).2.2 | (with_reducible refine Kd.C_alloc ?_ _) | (with_reducible refine Kd.C_drewN ?_ _) | (with_reducible refine Kd.C_drew ?_)))
          (case aB => exact (HB.out))
          (case aF => exact (fun k_ hk => ⟨(Nat.le_trans (below_size (HB.out)) hk), Kd.fresh' (Kd.R_lt (HO_4.out)) k_ hk, Kd.fresh' (Kd.R_lt (HO289.out)) k_ hk, Kd.fresh' (Kd.R_lt (HO295.out)) k_ hk⟩))
          (case aO => exact (Kd.R_mono HO292.out (fun _ hk => ⟨hk.1, ⟨hk.2.2.2, ⟨hk.2.1, hk.2.2.1⟩⟩⟩)))
          (case aS => exact (below_size (HB.out)))
          (case aL => have := LMc62.out; omega)
          intro v297 w72 ho hb hg hat
          rw [← Ny296.out] at ho
          have n0_ := Aside0.mk (Kd.R_after (ok := (fun k_ => (w.heap.size ≤ k_) ∧ some k_ ≠ (v288 : Value).ownBlock ∧ some k_ ≠ (.slice Ao73 y293.length co73 : Value).ownBlock)) (Kd.R_mono HO_4.out (fun _ hk => ⟨⟨hk.1, ⟨hk.2.1, hk.2.2.2⟩⟩, hk.2.2.1⟩)) hg hat)
          have n1_ := Aside0.mk (blk_grown (g := gb245) (o := .cells #[.int .i64 a0_0, .int .i64 a0_1, .int .i64 a0_2, .int .u16 a0_3, .int .u16 a0_4, .int .u16 a0_5, .slice A0_6 l0_6.length c0_6, .slice A0_7 l0_7.length c0_7, .int .i64 a0_8, .int .i64 a0_9, .int .i64 a0_10, .int .i64 a0_11] 49 (0, 0)) (BK245.out) hg (Kd.R_ne HO292.out BK245.out (by decide)))
          have n2_ := Aside0.mk (Kd.R_after (ok := (fun k_ => (w.heap.size ≤ k_) ∧ some k_ ≠ (.slice Ao64 y247.length co64 : Value).ownBlock ∧ some k_ ≠ (.slice Ao73 y293.length co73 : Value).ownBlock)) (Kd.R_mono HO289.out (fun _ hk => ⟨⟨hk.1, ⟨hk.2.2.2, hk.2.2.1⟩⟩, hk.2.1⟩)) hg hat)
          have n3_ := Aside0.mk (Kd.R_after (ok := (fun k_ => (w.heap.size ≤ k_) ∧ some k_ ≠ (.slice Ao64 y247.length co64 : Value).ownBlock ∧ some k_ ≠ (v288 : Value).ownBlock)) (Kd.R_mono HO295.out (fun _ hk => ⟨⟨hk.1, ⟨hk.2.2.2, hk.2.1⟩⟩, hk.2.2.1⟩)) hg hat)
          have n4_ := Aside0.mk (hb)
          have n5_ := Aside0.mk (ho)
          clear HO_4
          clear BK245
          clear HO289
          clear HO295
          clear HB
          clear HO292
          have HO_4 := n0_
          have BK245 := n1_
          have HO289 := n2_
          have HO295 := n3_
          have HB := n4_
          have HO298 := n5_
          clear n0_ n1_ n2_ n3_ n4_ n5_
          clear ho hb hg hat
          obtain ⟨Ao74, co74, eo74⟩ := Kd.R_slice HO298.out
          (first | subst eo74 | (injection eo74 with f1_ f2_ f3_; have f4_ := f1_.symm; have f5_ := f3_.symm; clear f1_ f2_ f3_; subst f4_; subst f5_))
          refine hK.out _ _ ⟨(blk_cell BK245.out 0).trans rfl, (blk_cell BK245.out 1).trans rfl, (blk_cell BK245.out 2).trans rfl, (blk_cell BK245.out 3).trans rfl, (blk_cell BK245.out 4).trans rfl, (blk_cell BK245.out 5).trans rfl, (blk_cell BK245.out 6).trans rfl, (blk_cell BK245.out 7).trans rfl, (blk_cell BK245.out 8).trans rfl, (blk_cell BK245.out 9).trans rfl, (blk_cell BK245.out 10).trans rfl, (blk_cell BK245.out 11).trans rfl⟩ (fun hHeld => ?_)
          clear hK K
          refine norm_ (a' := ?_) ?_ ?_
          rotate_left
          ·
           show Act.put _ (some 81) _ = _
           simp only [Act.put, List.setIfInBounds_toArray, List.set_cons_zero, List.set_cons_succ, i64_w, i32_w]
           rfl
          refine one_ (i := 15) (N := some 84) #[true,true,true,true,true,true,true,true,true,true,true,true,true,true,true,true,false,false] rfl rfl (one_of HT_.out (by kernel_rfl)) (by decide) (fun K hK => ?_)
          refine goes_ Try.func49 (by kernel_rfl) rfl #[.slice Ao74 y296.length co74, .slice A0_7 l0_7.length c0_7] (by rfl) rfl rfl (by (try simp only [List.map_toArray, List.map_cons, List.map_nil]); first | done | rfl | (simp only [List.length_drop, List.length_take]; rfl)) ?_
          with_reducible refine (busbarref5_words.calls kj3 (fun k_ => some k_ = (.slice Ao74 y296.length co74 : Value).ownBlock) _ _ y296 _ _ l0_7 t299 _ ?side1 ?side2 ?side3 A63.out).mono ?_
          (case side1 => exact Kd.R_V (Kd.R_tight rfl (Kd.R_types (HO298.out) BK245.out (by decide))))
          (case side2 => repeat (first | exact (Kd.C_below HR0_7.out HB.out) | (with_reducible refine Kd.C_alloc ?_ _) | (with_reducible refine Kd.C_drewN ?_ _) | (with_reducible refine Kd.C_drew ?_)))
          (case side3 => exact HC0_7.out)
          rintro e w75 ⟨v300, rfl, ho0, hb⟩
          refine ⟨_, rfl, ?_⟩
          have n0_ := Aside0.mk (Kd.R_below (HO_4.out) hb)
          have n1_ := Aside0.mk (Kd.R_below (HO289.out) hb)
          have n2_ := Aside0.mk (Kd.R_below (HO295.out) hb)
          have n3_ := Aside0.mk (Kd.R_below (HO298.out) hb)
          have n4_ := Aside0.mk (Kd.V_lower (Kd.V_mono (ok' := fun k_ => (w.heap.size ≤ k_) ∧ some k_ ≠ (.slice Ao64 y247.length co64 : Value).ownBlock ∧ some k_ ≠ (v288 : Value).ownBlock ∧ some k_ ≠ (.slice Ao73 y293.length co73 : Value).ownBlock ∧ k_ ≠ gb245) ho0 (fun k_ hk_ => ⟨Or.elim hk_ (fun hs_ => ((Kd.R_types (HO298.out) BK245.out (by decide)).1 k_ hs_.symm).1.1) (fun hn_ => (Nat.le_trans (below_size (HB.out)) hn_)), Or.elim hk_ (fun hs_ => ((Kd.R_types (HO298.out) BK245.out (by decide)).1 k_ hs_.symm).1.2.1) (fun hn_ => (Kd.fresh' (Kd.R_lt (HO_4.out)) k_ hn_)), Or.elim hk_ (fun hs_ => ((Kd.R_types (HO298.out) BK245.out (by decide)).1 k_ hs_.symm).1.2.2.1) (fun hn_ => (Kd.fresh' (Kd.R_lt (HO289.out)) k_ hn_)), Or.elim hk_ (fun hs_ => ((Kd.R_types (HO298.out) BK245.out (by decide)).1 k_ hs_.symm).1.2.2.2) (fun hn_ => (Kd.fresh' (Kd.R_lt (HO295.out)) k_ hn_)), Or.elim hk_ (fun hs_ => ((Kd.R_types (HO298.out) BK245.out (by decide)).1 k_ hs_.symm).2) (fun hn_ => (Kd.freshB (g := gb245) (o := .cells #[.int .i64 a0_0, .int .i64 a0_1, .int .i64 a0_2, .int .u16 a0_3, .int .u16 a0_4, .int .u16 a0_5, .slice A0_6 l0_6.length c0_6, .slice A0_7 l0_7.length c0_7, .int .i64 a0_8, .int .i64 a0_9, .int .i64 a0_10, .int .i64 a0_11] 49 (0, 0)) (BK245.out) k_ hn_))⟩)) (below_size (HB.out)))
          have n5_ := Aside0.mk (blk_below BK245.out hb)
          have n6_ := Aside0.mk (below_step (HB.out) hb)
          clear HO_4
          clear HO289
          clear HO295
          clear HO298
          clear BK245
          clear HB
          have HO_4 := n0_
          have HO289 := n1_
          have HO295 := n2_
          have HO298 := n3_
          have HO301 := n4_
          have BK245 := n5_
          have HB := n6_
          clear n0_ n1_ n2_ n3_ n4_ n5_ n6_
          (try clear hb)
          (try clear hb2)
          (try clear hk)
          (try clear hi)
          (try clear ho0)
          refine hK.out _ _ ⟨(blk_cell BK245.out 0).trans rfl, (blk_cell BK245.out 1).trans rfl, (blk_cell BK245.out 2).trans rfl, (blk_cell BK245.out 3).trans rfl, (blk_cell BK245.out 4).trans rfl, (blk_cell BK245.out 5).trans rfl, (blk_cell BK245.out 6).trans rfl, (blk_cell BK245.out 7).trans rfl, (blk_cell BK245.out 8).trans rfl, (blk_cell BK245.out 9).trans rfl, (blk_cell BK245.out 10).trans rfl, (blk_cell BK245.out 11).trans rfl⟩ (fun hHeld => ?_)
          clear hK K
          refine norm_ (a' := ?_) ?_ ?_
          rotate_left
          ·
           show Act.put _ (some 84) _ = _
           simp only [Act.put, List.setIfInBounds_toArray, List.set_cons_zero, List.set_cons_succ, i64_w, i32_w]
           rfl
          refine pure_ (i := 16) (N := some 2) (v := ?_) (a' := ?_) #[true,true,true,true,true,true,true,true,true,true,true,true,true,true,true,true,true,false] rfl rfl (any_of HT_.out (by kernel_rfl)) (fun _ _ _ h => h) (Or.inl ⟨by rfl, ?_⟩) ?_ ?_
          rotate_left
          ·
           intro w'
           go_simp
           with_reducible rfl
          rotate_left
          ·
           simp only [Act.put, List.setIfInBounds_toArray, List.set_cons_zero, List.set_cons_succ, i64_w, i32_w]
           rfl
          refine pure_ (i := 17) (N := some 3) (v := ?_) (a' := ?_) #[true,true,true,true,true,true,true,true,true,true,true,true,true,true,true,true,true,true] rfl rfl (any_of HT_.out (by kernel_rfl)) (fun _ _ _ h => h) (Or.inl ⟨by rfl, ?_⟩) ?_ ?_
          rotate_left
          ·
           intro w'
           go_simp
           with_reducible rfl
          rotate_left
          ·
           simp only [Act.put, List.setIfInBounds_toArray, List.set_cons_zero, List.set_cons_succ, i64_w, i32_w]
           rfl
          refine done_ (done_of HT_.out (by kernel_rfl)) ?_
          try go_wp2
          go_ret2
          exact ⟨_, by first | rfl | (simp [errW_none, errW_some] <;> rfl) | (simp [*, errW_none, errW_some] <;> rfl), Kd.V_mono HO301.out (fun _ hk => by first | exact hk.1 | exact hk), HB.out⟩
         ·
          rw [if_neg c62] at H
          exact absurd H (by simp)
        ·
         rw [if_neg c59] at H
         have c59b0 : (a0_0 == 16) = false := beq_eq_false_iff_ne.mpr c59
         have c59b1 : (a0_0 != 16) = true := bne_iff_ne.mpr c59
         by_cases c76 : a0_0 = 22
         ·
          rw [if_pos c76] at H
          have c76b0 : (a0_0 == 22) = true := beq_iff_eq.mpr c76
          have c76b1 : (a0_0 != 22) = false := bne_eq_false_iff_eq.mpr c76
          clear c76
          replace H := Option.bind_eq_some_iff.mp H
          obtain ⟨t302, A770, H⟩ := H
          have A77 := Aside0.mk A770
          clear A770
          replace H := Option.bind_eq_some_iff.mp H
          obtain ⟨t305, A780, H⟩ := H
          have A78 := Aside0.mk A780
          clear A780
          replace H := Option.bind_eq_some_iff.mp H
          obtain ⟨t308, A790, H⟩ := H
          have A79 := Aside0.mk A790
          clear A790
          simp only [Option.some.injEq, Prod.mk.injEq] at H
          obtain ⟨rfl, rfl⟩ := H
          try go_wp2
          have n0_ := Aside0.mk (Kd.R_drew HO_4.out)
          have n1_ := Aside0.mk (blk_drew BK245.out)
          have n2_ := Aside0.mk (below_drew1 HB.out)
          clear HO_4
          clear BK245
          clear HB
          have HO_4 := n0_
          have BK245 := n1_
          have HB := n2_
          clear n0_ n1_ n2_
          obtain ⟨Ao81, co81, eo81⟩ := Kd.R_slice HO_4.out
          (first | subst eo81 | (injection eo81 with f1_ f2_ f3_; have f4_ := f1_.symm; have f5_ := f3_.symm; clear f1_ f2_ f3_; subst f4_; subst f5_))
          refine start_ (n := 14) (S := fun w' => w'.cell? ⟨gb245, 0, none⟩ = some (.int .i64 a0_0) ∧ w'.cell? ⟨gb245, 1, none⟩ = some (.int .i64 a0_1) ∧ w'.cell? ⟨gb245, 2, none⟩ = some (.int .i64 a0_2) ∧ w'.cell? ⟨gb245, 3, none⟩ = some (.int .u16 a0_3) ∧ w'.cell? ⟨gb245, 4, none⟩ = some (.int .u16 a0_4) ∧ w'.cell? ⟨gb245, 5, none⟩ = some (.int .u16 a0_5) ∧ w'.cell? ⟨gb245, 6, none⟩ = some (.slice A0_6 l0_6.length c0_6) ∧ w'.cell? ⟨gb245, 7, none⟩ = some (.slice A0_7 l0_7.length c0_7) ∧ w'.cell? ⟨gb245, 8, none⟩ = some (.int .i64 a0_8) ∧ w'.cell? ⟨gb245, 9, none⟩ = some (.int .i64 a0_9) ∧ w'.cell? ⟨gb245, 10, none⟩ = some (.int .i64 a0_10) ∧ w'.cell? ⟨gb245, 11, none⟩ = some (.int .i64 a0_11)) (ds := []) #[false,false,false,false,false,false,false,false,false,false,false,false,false,false] (by kernel_rfl) rfl rfl ⟨(blk_cell BK245.out 0).trans rfl, (blk_cell BK245.out 1).trans rfl, (blk_cell BK245.out 2).trans rfl, (blk_cell BK245.out 3).trans rfl, (blk_cell BK245.out 4).trans rfl, (blk_cell BK245.out 5).trans rfl, (blk_cell BK245.out 6).trans rfl, (blk_cell BK245.out 7).trans rfl, (blk_cell BK245.out 8).trans rfl, (blk_cell BK245.out 9).trans rfl, (blk_cell BK245.out 10).trans rfl, (blk_cell BK245.out 11).trans rfl⟩ (fun hHeld => ?_); refine with_tabW busbarref5_AskBytes.tab20 busbarref5_AskBytes.bits20 (fun HT_ HW_ => ?_)
          generalize wc.drew = w80 at HO_4 BK245 HB hHeld ⊢
          refine pure_ (i := 0) (N := some 87) (v := ?_) (a' := ?_) #[true,false,false,false,false,false,false,false,false,false,false,false,false,false] rfl rfl (any_of HT_.out (by kernel_rfl)) (fun _ _ _ h => h) (Or.inl ⟨by rfl, ?_⟩) ?_ ?_
          rotate_left
          ·
           intro w'
           go_simp
           with_reducible rfl
          rotate_left
          ·
           simp only [Act.put, List.setIfInBounds_toArray, List.set_cons_zero, List.set_cons_succ, i64_w, i32_w]
           rfl
          refine pure_ (i := 1) (N := some 88) (v := ?_) (a' := ?_) #[true,true,false,false,false,false,false,false,false,false,false,false,false,false] rfl rfl (any_of HT_.out (by kernel_rfl)) (fun _ _ _ h => h) (Or.inl ⟨by rfl, ?_⟩) ?_ ?_
          rotate_left
          ·
           intro w'
           go_simp
           with_reducible rfl
          rotate_left
          ·
           simp only [Act.put, List.setIfInBounds_toArray, List.set_cons_zero, List.set_cons_succ, i64_w, i32_w]
           rfl
          refine pure_ (i := 4) (N := some 91) (v := ?_) (a' := ?_) #[true,true,false,false,true,false,false,false,false,false,false,false,false,false] rfl rfl (any_of HT_.out (by kernel_rfl)) (fun _ _ _ h => h) (Or.inl ⟨by rfl, ?_⟩) ?_ ?_
          rotate_left
          ·
           intro w'
           go_simp
           with_reducible rfl
          rotate_left
          ·
           simp only [Act.put, List.setIfInBounds_toArray, List.set_cons_zero, List.set_cons_succ, i64_w, i32_w]
           rfl
          refine pure_ (i := 8) (N := some 95) (v := ?_) (a' := ?_) #[true,true,false,false,true,false,false,false,true,false,false,false,false,false] rfl rfl (any_of HT_.out (by kernel_rfl)) (fun _ _ _ h => h) (Or.inl ⟨by rfl, ?_⟩) ?_ ?_
          rotate_left
          ·
           intro w'
           go_simp
           with_reducible rfl
          rotate_left
          ·
           simp only [Act.put, List.setIfInBounds_toArray, List.set_cons_zero, List.set_cons_succ, i64_w, i32_w]
           rfl
          refine take_ (i := 2) (N := some 89) (v := ?_) (a' := ?_) #[true,true,true,false,true,false,false,false,true,false,false,false,false,false] rfl rfl (take_ofW HT_.out HW_.out (by kernel_rfl)) (fun _ _ _ h => h) (Or.inl ⟨by rfl, ?_⟩) hHeld ?_ ?_
          rotate_left
          ·
           rintro w' ⟨s0, s1, s2, s3, s4, s5, s6, s7, s8, s9, s10, s11⟩
           go_simp
           with_reducible rfl
          rotate_left
          ·
           simp only [Act.put, List.setIfInBounds_toArray, List.set_cons_zero, List.set_cons_succ, i64_w, i32_w]
           rfl
          refine take_ (i := 5) (N := some 92) (v := ?_) (a' := ?_) #[true,true,true,false,true,true,false,false,true,false,false,false,false,false] rfl rfl (take_ofW HT_.out HW_.out (by kernel_rfl)) (fun _ _ _ h => h) (Or.inl ⟨by rfl, ?_⟩) hHeld ?_ ?_
          rotate_left
          ·
           rintro w' ⟨s0, s1, s2, s3, s4, s5, s6, s7, s8, s9, s10, s11⟩
           go_simp
           with_reducible rfl
          rotate_left
          ·
           simp only [Act.put, List.setIfInBounds_toArray, List.set_cons_zero, List.set_cons_succ, i64_w, i32_w]
           rfl
          refine pure_ (i := 6) (N := some 93) (v := ?_) (a' := ?_) #[true,true,true,false,true,true,true,false,true,false,false,false,false,false] rfl rfl (any_of HT_.out (by kernel_rfl)) (fun _ _ _ h => h) (Or.inl ⟨by rfl, ?_⟩) ?_ ?_
          rotate_left
          ·
           intro w'
           go_simp
           with_reducible rfl
          rotate_left
          ·
           simp only [Act.put, List.setIfInBounds_toArray, List.set_cons_zero, List.set_cons_succ, i64_w, i32_w]
           rfl
          refine take_ (i := 9) (N := some 96) (v := ?_) (a' := ?_) #[true,true,true,false,true,true,true,false,true,true,false,false,false,false] rfl rfl (take_ofW HT_.out HW_.out (by kernel_rfl)) (fun _ _ _ h => h) (Or.inl ⟨by rfl, ?_⟩) hHeld ?_ ?_
          rotate_left
          ·
           rintro w' ⟨s0, s1, s2, s3, s4, s5, s6, s7, s8, s9, s10, s11⟩
           go_simp
           with_reducible rfl
          rotate_left
          ·
           simp only [Act.put, List.setIfInBounds_toArray, List.set_cons_zero, List.set_cons_succ, i64_w, i32_w]
           rfl
          refine pure_ (i := 10) (N := some 97) (v := ?_) (a' := ?_) #[true,true,true,false,true,true,true,false,true,true,true,false,false,false] rfl rfl (any_of HT_.out (by kernel_rfl)) (fun _ _ _ h => h) (Or.inl ⟨by rfl, ?_⟩) ?_ ?_
          rotate_left
          ·
           intro w'
           go_simp
           with_reducible rfl
          rotate_left
          ·
           simp only [Act.put, List.setIfInBounds_toArray, List.set_cons_zero, List.set_cons_succ, i64_w, i32_w]
           rfl
          refine one_ (i := 3) (N := some 90) #[true,true,true,true,true,true,true,false,true,true,true,false,false,false] rfl rfl (one_of HT_.out (by kernel_rfl)) (by decide) (fun K hK => ?_)
          refine goes_ Try.func46 (by kernel_rfl) rfl #[.slice Ao81 y247.length co81, .int .i64 a0_1] (by rfl) rfl rfl (by (try simp only [List.map_toArray, List.map_cons, List.map_nil]); first | done | rfl | (simp only [List.length_drop, List.length_take]; rfl)) ?_
          with_reducible refine (busbarref5_two.calls _ _ y247 a0_1 t302 _ ?side1 ?side2 A77.out).mono ?_
          (case side1 => repeat (first | exact (Kd.R_reads' HO_4.out).2.2 | (with_reducible refine Kd.C_alloc ?_ _) | (with_reducible refine Kd.C_drewN ?_ _) | (with_reducible refine Kd.C_drew ?_)))
          (case side2 => exact (Kd.R_reads' HO_4.out).2.1)
          rintro e w82 ⟨v303, rfl, ho0, hb⟩
          refine ⟨_, rfl, ?_⟩
          have n0_ := Aside0.mk (Kd.R_elder' (HO_4.out) (Kd.R_base ho0) hb)
          have n1_ := Aside0.mk (Kd.R_lower (Kd.R_new' (Kd.R_newM (M := fun k_ => (w.heap.size ≤ k_)) ho0 (below_size (HB.out)) (fun k_ h_ => h_)) (Kd.R_lt (HO_4.out))) (below_size (HB.out)))
          have n2_ := Aside0.mk (blk_below BK245.out hb)
          have n3_ := Aside0.mk (below_step (HB.out) hb)
          clear HO_4
          clear BK245
          clear HB
          have HO_4 := n0_
          have HO304 := n1_
          have BK245 := n2_
          have HB := n3_
          clear n0_ n1_ n2_ n3_
          (try clear hb)
          (try clear hb2)
          (try clear hk)
          (try clear hi)
          (try clear ho0)
          obtain ⟨Ao83, co83, eo83⟩ := Kd.R_slice HO304.out
          (first | subst eo83 | (injection eo83 with f1_ f2_ f3_; have f4_ := f1_.symm; have f5_ := f3_.symm; clear f1_ f2_ f3_; subst f4_; subst f5_))
          refine hK.out _ _ ⟨(blk_cell BK245.out 0).trans rfl, (blk_cell BK245.out 1).trans rfl, (blk_cell BK245.out 2).trans rfl, (blk_cell BK245.out 3).trans rfl, (blk_cell BK245.out 4).trans rfl, (blk_cell BK245.out 5).trans rfl, (blk_cell BK245.out 6).trans rfl, (blk_cell BK245.out 7).trans rfl, (blk_cell BK245.out 8).trans rfl, (blk_cell BK245.out 9).trans rfl, (blk_cell BK245.out 10).trans rfl, (blk_cell BK245.out 11).trans rfl⟩ (fun hHeld => ?_)
          clear hK K
          refine norm_ (a' := ?_) ?_ ?_
          rotate_left
          ·
           show Act.put _ (some 90) _ = _
           simp only [Act.put, List.setIfInBounds_toArray, List.set_cons_zero, List.set_cons_succ, i64_w, i32_w]
           rfl
          refine one_ (i := 7) (N := some 94) #[true,true,true,true,true,true,true,true,true,true,true,false,false,false] rfl rfl (one_of HT_.out (by kernel_rfl)) (by decide) (fun K hK => ?_)
          refine goes_ Try.func46 (by kernel_rfl) rfl #[.slice Ao83 t302.length co83, .int .i64 (wrap64 (a0_4))] (by rfl) rfl rfl (by (try simp only [List.map_toArray, List.map_cons, List.map_nil]); first | done | rfl | (simp only [List.length_drop, List.length_take]; rfl)) ?_
          with_reducible refine (busbarref5_two.calls _ _ t302 (wrap64 (a0_4)) t305 _ ?side1 ?side2 A78.out).mono ?_
          (case side1 => repeat (first | exact (Kd.R_reads' HO304.out).2.2 | (with_reducible refine Kd.C_alloc ?_ _) | (with_reducible refine Kd.C_drewN ?_ _) | (with_reducible refine Kd.C_drew ?_)))
          (case side2 => exact (Kd.R_reads' HO304.out).2.1)
          rintro e w84 ⟨v306, rfl, ho0, hb⟩
          refine ⟨_, rfl, ?_⟩
          have n0_ := Aside0.mk (Kd.R_elder' (HO_4.out) (Kd.R_base ho0) hb)
          have n1_ := Aside0.mk (Kd.R_elder' (HO304.out) (Kd.R_base ho0) hb)
          have n2_ := Aside0.mk (Kd.R_lower (Kd.R_new' (Kd.R_new' (Kd.R_newM (M := fun k_ => (w.heap.size ≤ k_)) ho0 (below_size (HB.out)) (fun k_ h_ => h_)) (Kd.R_lt (HO_4.out))) (Kd.R_lt (HO304.out))) (below_size (HB.out)))
          have n3_ := Aside0.mk (blk_below BK245.out hb)
          have n4_ := Aside0.mk (below_step (HB.out) hb)
          clear HO_4
          clear HO304
          clear BK245
          clear HB
          have HO_4 := n0_
          have HO304 := n1_
          have HO307 := n2_
          have BK245 := n3_
          have HB := n4_
          clear n0_ n1_ n2_ n3_ n4_
          (try clear hb)
          (try clear hb2)
          (try clear hk)
          (try clear hi)
          (try clear ho0)
          obtain ⟨Ao85, co85, eo85⟩ := Kd.R_slice HO307.out
          (first | subst eo85 | (injection eo85 with f1_ f2_ f3_; have f4_ := f1_.symm; have f5_ := f3_.symm; clear f1_ f2_ f3_; subst f4_; subst f5_))
          refine hK.out _ _ ⟨(blk_cell BK245.out 0).trans rfl, (blk_cell BK245.out 1).trans rfl, (blk_cell BK245.out 2).trans rfl, (blk_cell BK245.out 3).trans rfl, (blk_cell BK245.out 4).trans rfl, (blk_cell BK245.out 5).trans rfl, (blk_cell BK245.out 6).trans rfl, (blk_cell BK245.out 7).trans rfl, (blk_cell BK245.out 8).trans rfl, (blk_cell BK245.out 9).trans rfl, (blk_cell BK245.out 10).trans rfl, (blk_cell BK245.out 11).trans rfl⟩ (fun hHeld => ?_)
          clear hK K
          refine norm_ (a' := ?_) ?_ ?_
          rotate_left
          ·
           show Act.put _ (some 94) _ = _
           simp only [Act.put, List.setIfInBounds_toArray, List.set_cons_zero, List.set_cons_succ, i64_w, i32_w]
           rfl
          refine one_ (i := 11) (N := some 98) #[true,true,true,true,true,true,true,true,true,true,true,true,false,false] rfl rfl (one_of HT_.out (by kernel_rfl)) (by decide) (fun K hK => ?_)
          refine goes_ Try.func46 (by kernel_rfl) rfl #[.slice Ao85 t305.length co85, .int .i64 (wrap64 (a0_5))] (by rfl) rfl rfl (by (try simp only [List.map_toArray, List.map_cons, List.map_nil]); first | done | rfl | (simp only [List.length_drop, List.length_take]; rfl)) ?_
          with_reducible refine (busbarref5_two.calls _ _ t305 (wrap64 (a0_5)) t308 _ ?side1 ?side2 A79.out).mono ?_
          (case side1 => repeat (first | exact (Kd.R_reads' HO307.out).2.2 | (with_reducible refine Kd.C_alloc ?_ _) | (with_reducible refine Kd.C_drewN ?_ _) | (with_reducible refine Kd.C_drew ?_)))
          (case side2 => exact (Kd.R_reads' HO307.out).2.1)
          rintro e w86 ⟨v309, rfl, ho0, hb⟩
          refine ⟨_, rfl, ?_⟩
          have n0_ := Aside0.mk (Kd.R_elder' (HO_4.out) (Kd.R_base ho0) hb)
          have n1_ := Aside0.mk (Kd.R_elder' (HO304.out) (Kd.R_base ho0) hb)
          have n2_ := Aside0.mk (Kd.R_elder' (HO307.out) (Kd.R_base ho0) hb)
          have n3_ := Aside0.mk (Kd.R_lower (Kd.R_new' (Kd.R_new' (Kd.R_new' (Kd.R_newM (M := fun k_ => (w.heap.size ≤ k_)) ho0 (below_size (HB.out)) (fun k_ h_ => h_)) (Kd.R_lt (HO_4.out))) (Kd.R_lt (HO304.out))) (Kd.R_lt (HO307.out))) (below_size (HB.out)))
          have n4_ := Aside0.mk (blk_below BK245.out hb)
          have n5_ := Aside0.mk (below_step (HB.out) hb)
          clear HO_4
          clear HO304
          clear HO307
          clear BK245
          clear HB
          have HO_4 := n0_
          have HO304 := n1_
          have HO307 := n2_
          have HO310 := n3_
          have BK245 := n4_
          have HB := n5_
          clear n0_ n1_ n2_ n3_ n4_ n5_
          (try clear hb)
          (try clear hb2)
          (try clear hk)
          (try clear hi)
          (try clear ho0)
          refine hK.out _ _ ⟨(blk_cell BK245.out 0).trans rfl, (blk_cell BK245.out 1).trans rfl, (blk_cell BK245.out 2).trans rfl, (blk_cell BK245.out 3).trans rfl, (blk_cell BK245.out 4).trans rfl, (blk_cell BK245.out 5).trans rfl, (blk_cell BK245.out 6).trans rfl, (blk_cell BK245.out 7).trans rfl, (blk_cell BK245.out 8).trans rfl, (blk_cell BK245.out 9).trans rfl, (blk_cell BK245.out 10).trans rfl, (blk_cell BK245.out 11).trans rfl⟩ (fun hHeld => ?_)
          clear hK K
          refine norm_ (a' := ?_) ?_ ?_
          rotate_left
          ·
           show Act.put _ (some 98) _ = _
           simp only [Act.put, List.setIfInBounds_toArray, List.set_cons_zero, List.set_cons_succ, i64_w, i32_w]
           rfl
          refine pure_ (i := 12) (N := some 2) (v := ?_) (a' := ?_) #[true,true,true,true,true,true,true,true,true,true,true,true,true,false] rfl rfl (any_of HT_.out (by kernel_rfl)) (fun _ _ _ h => h) (Or.inl ⟨by rfl, ?_⟩) ?_ ?_
          rotate_left
          ·
           intro w'
           go_simp
           with_reducible rfl
          rotate_left
          ·
           simp only [Act.put, List.setIfInBounds_toArray, List.set_cons_zero, List.set_cons_succ, i64_w, i32_w]
           rfl
          refine pure_ (i := 13) (N := some 3) (v := ?_) (a' := ?_) #[true,true,true,true,true,true,true,true,true,true,true,true,true,true] rfl rfl (any_of HT_.out (by kernel_rfl)) (fun _ _ _ h => h) (Or.inl ⟨by rfl, ?_⟩) ?_ ?_
          rotate_left
          ·
           intro w'
           go_simp
           with_reducible rfl
          rotate_left
          ·
           simp only [Act.put, List.setIfInBounds_toArray, List.set_cons_zero, List.set_cons_succ, i64_w, i32_w]
           rfl
          refine done_ (done_of HT_.out (by kernel_rfl)) ?_
          try go_wp2
          go_ret2
          exact ⟨_, by first | rfl | (simp [errW_none, errW_some] <;> rfl) | (simp [*, errW_none, errW_some] <;> rfl), Kd.R_V (Kd.R_mono HO310.out (fun _ hk => by first | exact hk.1.1.1.1 | exact hk)), HB.out⟩
         ·
          rw [if_neg c76] at H
          have c76b0 : (a0_0 == 22) = false := beq_eq_false_iff_ne.mpr c76
          have c76b1 : (a0_0 != 22) = true := bne_iff_ne.mpr c76
          by_cases c87 : a0_0 = 23
          ·
           rw [if_pos c87] at H
           have c87b0 : (a0_0 == 23) = true := beq_iff_eq.mpr c87
           have c87b1 : (a0_0 != 23) = false := bne_eq_false_iff_eq.mpr c87
           clear c87
           replace H := Option.bind_eq_some_iff.mp H
           obtain ⟨t311, A880, H⟩ := H
           have A88 := Aside0.mk A880
           clear A880
           replace H := Option.bind_eq_some_iff.mp H
           obtain ⟨t314, A890, H⟩ := H
           have A89 := Aside0.mk A890
           clear A890
           replace H := Option.bind_eq_some_iff.mp H
           obtain ⟨t317, A900, H⟩ := H
           have A90 := Aside0.mk A900
           clear A900
           replace H := Option.bind_eq_some_iff.mp H
           obtain ⟨t320, A910, H⟩ := H
           have A91 := Aside0.mk A910
           clear A910
           obtain ⟨y323, hy323⟩ : ∃ y_ : List Int, y_ = (([(wrap64 (2 * a0_2)) % 256] : List Int)) := ⟨_, rfl⟩
           replace H : (if t320.length + y323.length < 140737488355328 then ((busbarref5_words.f kj3 (t320 ++ y323) l0_7).bind fun t329 => (some (t329, 0))) else (none)) = some (r1, r2) := by first | (rw [hy323]; with_reducible exact H) | (have H2_ := (Option.bind_some _ _).symm.trans H; rw [hy323]; with_reducible exact H2_) | (have H2_ := (Option.bind_some _ _).symm.trans H; with_reducible exact H2_) | with_reducible exact H | (rw [hy323]; exact H) | exact H
           have Ny323 := Aside0.mk hy323
           clear hy323
           by_cases c92 : t320.length + y323.length < 140737488355328
           ·
            rw [if_pos c92] at H
            have LMc92 := Aside0.mk c92
            clear c92
            obtain ⟨y326, hy326⟩ : ∃ y_ : List Int, y_ = (t320 ++ y323) := ⟨_, rfl⟩
            replace H : ((busbarref5_words.f kj3 y326 l0_7).bind fun t329 => (some (t329, 0))) = some (r1, r2) := by first | (rw [hy326]; with_reducible exact H) | (have H2_ := (Option.bind_some _ _).symm.trans H; rw [hy326]; with_reducible exact H2_) | (have H2_ := (Option.bind_some _ _).symm.trans H; with_reducible exact H2_) | with_reducible exact H | (rw [hy326]; exact H) | exact H
            have Ny326 := Aside0.mk hy326
            clear hy326
            replace H := Option.bind_eq_some_iff.mp H
            obtain ⟨t329, A930, H⟩ := H
            have A93 := Aside0.mk A930
            clear A930
            simp only [Option.some.injEq, Prod.mk.injEq] at H
            obtain ⟨rfl, rfl⟩ := H
            try go_wp2
            have n0_ := Aside0.mk (Kd.R_drew HO_4.out)
            have n1_ := Aside0.mk (blk_drew BK245.out)
            have n2_ := Aside0.mk (below_drew1 HB.out)
            clear HO_4
            clear BK245
            clear HB
            have HO_4 := n0_
            have BK245 := n1_
            have HB := n2_
            clear n0_ n1_ n2_
            obtain ⟨Ao95, co95, eo95⟩ := Kd.R_slice HO_4.out
            (first | subst eo95 | (injection eo95 with f1_ f2_ f3_; have f4_ := f1_.symm; have f5_ := f3_.symm; clear f1_ f2_ f3_; subst f4_; subst f5_))
            refine start_ (n := 14) (S := fun w' => w'.cell? ⟨gb245, 0, none⟩ = some (.int .i64 a0_0) ∧ w'.cell? ⟨gb245, 1, none⟩ = some (.int .i64 a0_1) ∧ w'.cell? ⟨gb245, 2, none⟩ = some (.int .i64 a0_2) ∧ w'.cell? ⟨gb245, 3, none⟩ = some (.int .u16 a0_3) ∧ w'.cell? ⟨gb245, 4, none⟩ = some (.int .u16 a0_4) ∧ w'.cell? ⟨gb245, 5, none⟩ = some (.int .u16 a0_5) ∧ w'.cell? ⟨gb245, 6, none⟩ = some (.slice A0_6 l0_6.length c0_6) ∧ w'.cell? ⟨gb245, 7, none⟩ = some (.slice A0_7 l0_7.length c0_7) ∧ w'.cell? ⟨gb245, 8, none⟩ = some (.int .i64 a0_8) ∧ w'.cell? ⟨gb245, 9, none⟩ = some (.int .i64 a0_9) ∧ w'.cell? ⟨gb245, 10, none⟩ = some (.int .i64 a0_10) ∧ w'.cell? ⟨gb245, 11, none⟩ = some (.int .i64 a0_11)) (ds := []) #[false,false,false,false,false,false,false,false,false,false,false,false,false,false] (by kernel_rfl) rfl rfl ⟨(blk_cell BK245.out 0).trans rfl, (blk_cell BK245.out 1).trans rfl, (blk_cell BK245.out 2).trans rfl, (blk_cell BK245.out 3).trans rfl, (blk_cell BK245.out 4).trans rfl, (blk_cell BK245.out 5).trans rfl, (blk_cell BK245.out 6).trans rfl, (blk_cell BK245.out 7).trans rfl, (blk_cell BK245.out 8).trans rfl, (blk_cell BK245.out 9).trans rfl, (blk_cell BK245.out 10).trans rfl, (blk_cell BK245.out 11).trans rfl⟩ (fun hHeld => ?_); refine with_tabW busbarref5_AskBytes.tab22 busbarref5_AskBytes.bits22 (fun HT_ HW_ => ?_)
            generalize wc.drew = w94 at HO_4 BK245 HB hHeld ⊢
            refine pure_ (i := 0) (N := some 101) (v := ?_) (a' := ?_) #[true,false,false,false,false,false,false,false,false,false,false,false,false,false] rfl rfl (any_of HT_.out (by kernel_rfl)) (fun _ _ _ h => h) (Or.inl ⟨by rfl, ?_⟩) ?_ ?_
            rotate_left
            ·
             intro w'
             go_simp
             with_reducible rfl
            rotate_left
            ·
             simp only [Act.put, List.setIfInBounds_toArray, List.set_cons_zero, List.set_cons_succ, i64_w, i32_w]
             rfl
            refine pure_ (i := 1) (N := some 102) (v := ?_) (a' := ?_) #[true,true,false,false,false,false,false,false,false,false,false,false,false,false] rfl rfl (any_of HT_.out (by kernel_rfl)) (fun _ _ _ h => h) (Or.inl ⟨by rfl, ?_⟩) ?_ ?_
            rotate_left
            ·
             intro w'
             go_simp
             with_reducible rfl
            rotate_left
            ·
             simp only [Act.put, List.setIfInBounds_toArray, List.set_cons_zero, List.set_cons_succ, i64_w, i32_w]
             rfl
            refine pure_ (i := 4) (N := some 105) (v := ?_) (a' := ?_) #[true,true,false,false,true,false,false,false,false,false,false,false,false,false] rfl rfl (any_of HT_.out (by kernel_rfl)) (fun _ _ _ h => h) (Or.inl ⟨by rfl, ?_⟩) ?_ ?_
            rotate_left
            ·
             intro w'
             go_simp
             with_reducible rfl
            rotate_left
            ·
             simp only [Act.put, List.setIfInBounds_toArray, List.set_cons_zero, List.set_cons_succ, i64_w, i32_w]
             rfl
            refine pure_ (i := 7) (N := some 108) (v := ?_) (a' := ?_) #[true,true,false,false,true,false,false,true,false,false,false,false,false,false] rfl rfl (any_of HT_.out (by kernel_rfl)) (fun _ _ _ h => h) (Or.inl ⟨by rfl, ?_⟩) ?_ ?_
            rotate_left
            ·
             intro w'
             go_simp
             with_reducible rfl
            rotate_left
            ·
             simp only [Act.put, List.setIfInBounds_toArray, List.set_cons_zero, List.set_cons_succ, i64_w, i32_w]
             rfl
            refine pure_ (i := 10) (N := some 111) (v := ?_) (a' := ?_) #[true,true,false,false,true,false,false,true,false,false,true,false,false,false] rfl rfl (any_of HT_.out (by kernel_rfl)) (fun _ _ _ h => h) (Or.inl ⟨by rfl, ?_⟩) ?_ ?_
            rotate_left
            ·
             intro w'
             go_simp
             with_reducible rfl
            rotate_left
            ·
             simp only [Act.put, List.setIfInBounds_toArray, List.set_cons_zero, List.set_cons_succ, i64_w, i32_w]
             rfl
            refine take_ (i := 2) (N := some 103) (v := ?_) (a' := ?_) #[true,true,true,false,true,false,false,true,false,false,true,false,false,false] rfl rfl (take_ofW HT_.out HW_.out (by kernel_rfl)) (fun _ _ _ h => h) (Or.inl ⟨by rfl, ?_⟩) hHeld ?_ ?_
            rotate_left
            ·
             rintro w' ⟨s0, s1, s2, s3, s4, s5, s6, s7, s8, s9, s10, s11⟩
             go_simp
             with_reducible rfl
            rotate_left
            ·
             simp only [Act.put, List.setIfInBounds_toArray, List.set_cons_zero, List.set_cons_succ, i64_w, i32_w]
             rfl
            refine take_ (i := 5) (N := some 106) (v := ?_) (a' := ?_) #[true,true,true,false,true,true,false,true,false,false,true,false,false,false] rfl rfl (take_ofW HT_.out HW_.out (by kernel_rfl)) (fun _ _ _ h => h) (Or.inl ⟨by rfl, ?_⟩) hHeld ?_ ?_
            rotate_left
            ·
             rintro w' ⟨s0, s1, s2, s3, s4, s5, s6, s7, s8, s9, s10, s11⟩
             go_simp
             with_reducible rfl
            rotate_left
            ·
             simp only [Act.put, List.setIfInBounds_toArray, List.set_cons_zero, List.set_cons_succ, i64_w, i32_w]
             rfl
            refine take_ (i := 8) (N := some 109) (v := ?_) (a' := ?_) #[true,true,true,false,true,true,false,true,true,false,true,false,false,false] rfl rfl (take_ofW HT_.out HW_.out (by kernel_rfl)) (fun _ _ _ h => h) (Or.inl ⟨by rfl, ?_⟩) hHeld ?_ ?_
            rotate_left
            ·
             rintro w' ⟨s0, s1, s2, s3, s4, s5, s6, s7, s8, s9, s10, s11⟩
             go_simp
             with_reducible rfl
            rotate_left
            ·
             simp only [Act.put, List.setIfInBounds_toArray, List.set_cons_zero, List.set_cons_succ, i64_w, i32_w]
             rfl
            refine take_ (i := 11) (N := some 112) (v := ?_) (a' := ?_) #[true,true,true,false,true,true,false,true,true,false,true,true,false,false] rfl rfl (take_ofW HT_.out HW_.out (by kernel_rfl)) (fun _ _ _ h => h) (Or.inl ⟨by rfl, ?_⟩) hHeld ?_ ?_
            rotate_left
            ·
             rintro w' ⟨s0, s1, s2, s3, s4, s5, s6, s7, s8, s9, s10, s11⟩
             go_simp
             with_reducible rfl
            rotate_left
            ·
             simp only [Act.put, List.setIfInBounds_toArray, List.set_cons_zero, List.set_cons_succ, i64_w, i32_w]
             rfl
            refine one_ (i := 3) (N := some 104) #[true,true,true,true,true,true,false,true,true,false,true,true,false,false] rfl rfl (one_of HT_.out (by kernel_rfl)) (by decide) (fun K hK => ?_)
            refine goes_ Try.func46 (by kernel_rfl) rfl #[.slice Ao95 y247.length co95, .int .i64 a0_8] (by rfl) rfl rfl (by (try simp only [List.map_toArray, List.map_cons, List.map_nil]); first | done | rfl | (simp only [List.length_drop, List.length_take]; rfl)) ?_
            with_reducible refine (busbarref5_two.calls _ _ y247 a0_8 t311 _ ?side1 ?side2 A88.out).mono ?_
            (case side1 => repeat (first | exact (Kd.R_reads' HO_4.out).2.2 | (with_reducible refine Kd.C_alloc ?_ _) | (with_reducible refine Kd.C_drewN ?_ _) | (with_reducible refine Kd.C_drew ?_)))
            (case side2 => exact (Kd.R_reads' HO_4.out).2.1)
            rintro e w96 ⟨v312, rfl, ho0, hb⟩
            refine ⟨_, rfl, ?_⟩
            have n0_ := Aside0.mk (Kd.R_elder' (HO_4.out) (Kd.R_base ho0) hb)
            have n1_ := Aside0.mk (Kd.R_lower (Kd.R_new' (Kd.R_newM (M := fun k_ => (w.heap.size ≤ k_)) ho0 (below_size (HB.out)) (fun k_ h_ => h_)) (Kd.R_lt (HO_4.out))) (below_size (HB.out)))
            have n2_ := Aside0.mk (blk_below BK245.out hb)
            have n3_ := Aside0.mk (below_step (HB.out) hb)
            clear HO_4
            clear BK245
            clear HB
            have HO_4 := n0_
            have HO313 := n1_
            have BK245 := n2_
            have HB := n3_
            clear n0_ n1_ n2_ n3_
            (try clear hb)
            (try clear hb2)
            (try clear hk)
            (try clear hi)
            (try clear ho0)
            obtain ⟨Ao97, co97, eo97⟩ := Kd.R_slice HO313.out
            (first | subst eo97 | (injection eo97 with f1_ f2_ f3_; have f4_ := f1_.symm; have f5_ := f3_.symm; clear f1_ f2_ f3_; subst f4_; subst f5_))
            refine hK.out _ _ ⟨(blk_cell BK245.out 0).trans rfl, (blk_cell BK245.out 1).trans rfl, (blk_cell BK245.out 2).trans rfl, (blk_cell BK245.out 3).trans rfl, (blk_cell BK245.out 4).trans rfl, (blk_cell BK245.out 5).trans rfl, (blk_cell BK245.out 6).trans rfl, (blk_cell BK245.out 7).trans rfl, (blk_cell BK245.out 8).trans rfl, (blk_cell BK245.out 9).trans rfl, (blk_cell BK245.out 10).trans rfl, (blk_cell BK245.out 11).trans rfl⟩ (fun hHeld => ?_)
            clear hK K
            refine norm_ (a' := ?_) ?_ ?_
            rotate_left
            ·
             show Act.put _ (some 104) _ = _
             simp only [Act.put, List.setIfInBounds_toArray, List.set_cons_zero, List.set_cons_succ, i64_w, i32_w]
             rfl
            refine one_ (i := 6) (N := some 107) #[true,true,true,true,true,true,true,true,true,false,true,true,false,false] rfl rfl (one_of HT_.out (by kernel_rfl)) (by decide) (fun K hK => ?_)
            refine goes_ Try.func46 (by kernel_rfl) rfl #[.slice Ao97 t311.length co97, .int .i64 a0_9] (by rfl) rfl rfl (by (try simp only [List.map_toArray, List.map_cons, List.map_nil]); first | done | rfl | (simp only [List.length_drop, List.length_take]; rfl)) ?_
            with_reducible refine (busbarref5_two.calls _ _ t311 a0_9 t314 _ ?side1 ?side2 A89.out).mono ?_
            (case side1 => repeat (first | exact (Kd.R_reads' HO313.out).2.2 | (with_reducible refine Kd.C_alloc ?_ _) | (with_reducible refine Kd.C_drewN ?_ _) | (with_reducible refine Kd.C_drew ?_)))
            (case side2 => exact (Kd.R_reads' HO313.out).2.1)
            rintro e w98 ⟨v315, rfl, ho0, hb⟩
            refine ⟨_, rfl, ?_⟩
            have n0_ := Aside0.mk (Kd.R_elder' (HO_4.out) (Kd.R_base ho0) hb)
            have n1_ := Aside0.mk (Kd.R_elder' (HO313.out) (Kd.R_base ho0) hb)
            have n2_ := Aside0.mk (Kd.R_lower (Kd.R_new' (Kd.R_new' (Kd.R_newM (M := fun k_ => (w.heap.size ≤ k_)) ho0 (below_size (HB.out)) (fun k_ h_ => h_)) (Kd.R_lt (HO_4.out))) (Kd.R_lt (HO313.out))) (below_size (HB.out)))
            have n3_ := Aside0.mk (blk_below BK245.out hb)
            have n4_ := Aside0.mk (below_step (HB.out) hb)
            clear HO_4
            clear HO313
            clear BK245
            clear HB
            have HO_4 := n0_
            have HO313 := n1_
            have HO316 := n2_
            have BK245 := n3_
            have HB := n4_
            clear n0_ n1_ n2_ n3_ n4_
            (try clear hb)
            (try clear hb2)
            (try clear hk)
            (try clear hi)
            (try clear ho0)
            obtain ⟨Ao99, co99, eo99⟩ := Kd.R_slice HO316.out
            (first | subst eo99 | (injection eo99 with f1_ f2_ f3_; have f4_ := f1_.symm; have f5_ := f3_.symm; clear f1_ f2_ f3_; subst f4_; subst f5_))
            refine hK.out _ _ ⟨(blk_cell BK245.out 0).trans rfl, (blk_cell BK245.out 1).trans rfl, (blk_cell BK245.out 2).trans rfl, (blk_cell BK245.out 3).trans rfl, (blk_cell BK245.out 4).trans rfl, (blk_cell BK245.out 5).trans rfl, (blk_cell BK245.out 6).trans rfl, (blk_cell BK245.out 7).trans rfl, (blk_cell BK245.out 8).trans rfl, (blk_cell BK245.out 9).trans rfl, (blk_cell BK245.out 10).trans rfl, (blk_cell BK245.out 11).trans rfl⟩ (fun hHeld => ?_)
            clear hK K
            refine norm_ (a' := ?_) ?_ ?_
            rotate_left
            ·
             show Act.put _ (some 107) _ = _
             simp only [Act.put, List.setIfInBounds_toArray, List.set_cons_zero, List.set_cons_succ, i64_w, i32_w]
             rfl
            refine one_ (i := 9) (N := some 110) #[true,true,true,true,true,true,true,true,true,true,true,true,false,false] rfl rfl (one_of HT_.out (by kernel_rfl)) (by decide) (fun K hK => ?_)
            refine goes_ Try.func46 (by kernel_rfl) rfl #[.slice Ao99 t314.length co99, .int .i64 a0_1] (by rfl) rfl rfl (by (try simp only [List.map_toArray, List.map_cons, List.map_nil]); first | done | rfl | (simp only [List.length_drop, List.length_take]; rfl)) ?_
            with_reducible refine (busbarref5_two.calls _ _ t314 a0_1 t317 _ ?side1 ?side2 A90.out).mono ?_
            (case side1 => repeat (first | exact (Kd.R_reads' HO316.out).2.2 | (with_reducible refine Kd.C_alloc ?_ _) | (with_reducible refine Kd.C_drewN ?_ _) | (with_reducible refine Kd.C_drew ?_)))
            (case side2 => exact (Kd.R_reads' HO316.out).2.1)
            rintro e w100 ⟨v318, rfl, ho0, hb⟩
            refine ⟨_, rfl, ?_⟩
            have n0_ := Aside0.mk (Kd.R_elder' (HO_4.out) (Kd.R_base ho0) hb)
            have n1_ := Aside0.mk (Kd.R_elder' (HO313.out) (Kd.R_base ho0) hb)
            have n2_ := Aside0.mk (Kd.R_elder' (HO316.out) (Kd.R_base ho0) hb)
            have n3_ := Aside0.mk (Kd.R_lower (Kd.R_new' (Kd.R_new' (Kd.R_new' (Kd.R_newM (M := fun k_ => (w.heap.size ≤ k_)) ho0 (below_size (HB.out)) (fun k_ h_ => h_)) (Kd.R_lt (HO_4.out))) (Kd.R_lt (HO313.out))) (Kd.R_lt (HO316.out))) (below_size (HB.out)))
            have n4_ := Aside0.mk (blk_below BK245.out hb)
            have n5_ := Aside0.mk (below_step (HB.out) hb)
            clear HO_4
            clear HO313
            clear HO316
            clear BK245
            clear HB
            have HO_4 := n0_
            have HO313 := n1_
            have HO316 := n2_
            have HO319 := n3_
            have BK245 := n4_
            have HB := n5_
            clear n0_ n1_ n2_ n3_ n4_ n5_
            (try clear hb)
            (try clear hb2)
            (try clear hk)
            (try clear hi)
            (try clear ho0)
            obtain ⟨Ao101, co101, eo101⟩ := Kd.R_slice HO319.out
            (first | subst eo101 | (injection eo101 with f1_ f2_ f3_; have f4_ := f1_.symm; have f5_ := f3_.symm; clear f1_ f2_ f3_; subst f4_; subst f5_))
            refine hK.out _ _ ⟨(blk_cell BK245.out 0).trans rfl, (blk_cell BK245.out 1).trans rfl, (blk_cell BK245.out 2).trans rfl, (blk_cell BK245.out 3).trans rfl, (blk_cell BK245.out 4).trans rfl, (blk_cell BK245.out 5).trans rfl, (blk_cell BK245.out 6).trans rfl, (blk_cell BK245.out 7).trans rfl, (blk_cell BK245.out 8).trans rfl, (blk_cell BK245.out 9).trans rfl, (blk_cell BK245.out 10).trans rfl, (blk_cell BK245.out 11).trans rfl⟩ (fun hHeld => ?_)
            clear hK K
            refine norm_ (a' := ?_) ?_ ?_
            rotate_left
            ·
             show Act.put _ (some 110) _ = _
             simp only [Act.put, List.setIfInBounds_toArray, List.set_cons_zero, List.set_cons_succ, i64_w, i32_w]
             rfl
            refine one_ (i := 12) (N := some 113) #[true,true,true,true,true,true,true,true,true,true,true,true,true,false] rfl rfl (one_of HT_.out (by kernel_rfl)) (by decide) (fun K hK => ?_)
            refine goes_ Try.func46 (by kernel_rfl) rfl #[.slice Ao101 t317.length co101, .int .i64 a0_2] (by rfl) rfl rfl (by (try simp only [List.map_toArray, List.map_cons, List.map_nil]); first | done | rfl | (simp only [List.length_drop, List.length_take]; rfl)) ?_
            with_reducible refine (busbarref5_two.calls _ _ t317 a0_2 t320 _ ?side1 ?side2 A91.out).mono ?_
            (case side1 => repeat (first | exact (Kd.R_reads' HO319.out).2.2 | (with_reducible refine Kd.C_alloc ?_ _) | (with_reducible refine Kd.C_drewN ?_ _) | (with_reducible refine Kd.C_drew ?_)))
            (case side2 => exact (Kd.R_reads' HO319.out).2.1)
            rintro e w102 ⟨v321, rfl, ho0, hb⟩
            refine ⟨_, rfl, ?_⟩
            have n0_ := Aside0.mk (Kd.R_elder' (HO_4.out) (Kd.R_base ho0) hb)
            have n1_ := Aside0.mk (Kd.R_elder' (HO313.out) (Kd.R_base ho0) hb)
            have n2_ := Aside0.mk (Kd.R_elder' (HO316.out) (Kd.R_base ho0) hb)
            have n3_ := Aside0.mk (Kd.R_elder' (HO319.out) (Kd.R_base ho0) hb)
            have n4_ := Aside0.mk (Kd.R_lower (Kd.R_new' (Kd.R_new' (Kd.R_new' (Kd.R_new' (Kd.R_newM (M := fun k_ => (w.heap.size ≤ k_)) ho0 (below_size (HB.out)) (fun k_ h_ => h_)) (Kd.R_lt (HO_4.out))) (Kd.R_lt (HO313.out))) (Kd.R_lt (HO316.out))) (Kd.R_lt (HO319.out))) (below_size (HB.out)))
            have n5_ := Aside0.mk (blk_below BK245.out hb)
            have n6_ := Aside0.mk (below_step (HB.out) hb)
            clear HO_4
            clear HO313
            clear HO316
            clear HO319
            clear BK245
            clear HB
            have HO_4 := n0_
            have HO313 := n1_
            have HO316 := n2_
            have HO319 := n3_
            have HO322 := n4_
            have BK245 := n5_
            have HB := n6_
            clear n0_ n1_ n2_ n3_ n4_ n5_ n6_
            (try clear hb)
            (try clear hb2)
            (try clear hk)
            (try clear hi)
            (try clear ho0)
            refine hK.out _ _ ⟨(blk_cell BK245.out 0).trans rfl, (blk_cell BK245.out 1).trans rfl, (blk_cell BK245.out 2).trans rfl, (blk_cell BK245.out 3).trans rfl, (blk_cell BK245.out 4).trans rfl, (blk_cell BK245.out 5).trans rfl, (blk_cell BK245.out 6).trans rfl, (blk_cell BK245.out 7).trans rfl, (blk_cell BK245.out 8).trans rfl, (blk_cell BK245.out 9).trans rfl, (blk_cell BK245.out 10).trans rfl, (blk_cell BK245.out 11).trans rfl⟩ (fun hHeld => ?_)
            clear hK K
            refine norm_ (a' := ?_) ?_ ?_
            rotate_left
            ·
             show Act.put _ (some 113) _ = _
             simp only [Act.put, List.setIfInBounds_toArray, List.set_cons_zero, List.set_cons_succ, i64_w, i32_w]
             rfl
            refine pure_ (i := 13) (N := some 4) (v := ?_) (a' := ?_) #[true,true,true,true,true,true,true,true,true,true,true,true,true,true] rfl rfl (any_of HT_.out (by kernel_rfl)) (fun _ _ _ h => h) (Or.inl ⟨by rfl, ?_⟩) ?_ ?_
            rotate_left
            ·
             intro w'
             go_simp
             with_reducible rfl
            rotate_left
            ·
             simp only [Act.put, List.setIfInBounds_toArray, List.set_cons_zero, List.set_cons_succ, i64_w, i32_w]
             rfl
            refine done_ (done_of HT_.out (by kernel_rfl)) ?_
            try go_wp2
            have n0_ := Aside0.mk (Kd.R_drew HO_4.out)
            have n1_ := Aside0.mk (Kd.R_drew HO313.out)
            have n2_ := Aside0.mk (Kd.R_drew HO316.out)
            have n3_ := Aside0.mk (Kd.R_drew HO319.out)
            have n4_ := Aside0.mk (Kd.R_drew HO322.out)
            have n5_ := Aside0.mk (blk_drew BK245.out)
            have n6_ := Aside0.mk (below_drew1 HB.out)
            clear HO_4
            clear HO313
            clear HO316
            clear HO319
            clear HO322
            clear BK245
            clear HB
            have HO_4 := n0_
            have HO313 := n1_
            have HO316 := n2_
            have HO319 := n3_
            have HO322 := n4_
            have BK245 := n5_
            have HB := n6_
            clear n0_ n1_ n2_ n3_ n4_ n5_ n6_
            refine start_ (n := 12) (S := fun w' => w'.cell? ⟨gb245, 0, none⟩ = some (.int .i64 a0_0) ∧ w'.cell? ⟨gb245, 1, none⟩ = some (.int .i64 a0_1) ∧ w'.cell? ⟨gb245, 2, none⟩ = some (.int .i64 a0_2) ∧ w'.cell? ⟨gb245, 3, none⟩ = some (.int .u16 a0_3) ∧ w'.cell? ⟨gb245, 4, none⟩ = some (.int .u16 a0_4) ∧ w'.cell? ⟨gb245, 5, none⟩ = some (.int .u16 a0_5) ∧ w'.cell? ⟨gb245, 6, none⟩ = some (.slice A0_6 l0_6.length c0_6) ∧ w'.cell? ⟨gb245, 7, none⟩ = some (.slice A0_7 l0_7.length c0_7) ∧ w'.cell? ⟨gb245, 8, none⟩ = some (.int .i64 a0_8) ∧ w'.cell? ⟨gb245, 9, none⟩ = some (.int .i64 a0_9) ∧ w'.cell? ⟨gb245, 10, none⟩ = some (.int .i64 a0_10) ∧ w'.cell? ⟨gb245, 11, none⟩ = some (.int .i64 a0_11)) (ds := []) #[false,false,false,false,false,false,false,false,false,false,false,false] (by kernel_rfl) rfl rfl ⟨(blk_cell BK245.out 0).trans rfl, (blk_cell BK245.out 1).trans rfl, (blk_cell BK245.out 2).trans rfl, (blk_cell BK245.out 3).trans rfl, (blk_cell BK245.out 4).trans rfl, (blk_cell BK245.out 5).trans rfl, (blk_cell BK245.out 6).trans rfl, (blk_cell BK245.out 7).trans rfl, (blk_cell BK245.out 8).trans rfl, (blk_cell BK245.out 9).trans rfl, (blk_cell BK245.out 10).trans rfl, (blk_cell BK245.out 11).trans rfl⟩ (fun hHeld => ?_); refine with_tabW busbarref5_AskBytes.tab23 busbarref5_AskBytes.bits23 (fun HT_ HW_ => ?_)
            generalize w102.drew = w103 at HO_4 HO313 HO316 HO319 HO322 BK245 HB hHeld ⊢
            refine pure_ (i := 0) (N := some 114) (v := ?_) (a' := ?_) #[true,false,false,false,false,false,false,false,false,false,false,false] rfl rfl (any_of HT_.out (by kernel_rfl)) (fun _ _ _ h => h) (Or.inl ⟨by rfl, ?_⟩) ?_ ?_
            rotate_left
            ·
             intro w'
             go_simp
             with_reducible rfl
            rotate_left
            ·
             simp only [Act.put, List.setIfInBounds_toArray, List.set_cons_zero, List.set_cons_succ, i64_w, i32_w]
             rfl
            refine pure_ (i := 1) (N := some 115) (v := ?_) (a' := ?_) #[true,true,false,false,false,false,false,false,false,false,false,false] rfl rfl (any_of HT_.out (by kernel_rfl)) (fun _ _ _ h => h) (Or.inl ⟨by rfl, ?_⟩) ?_ ?_
            rotate_left
            ·
             intro w'
             go_simp
             with_reducible rfl
            rotate_left
            ·
             simp only [Act.put, List.setIfInBounds_toArray, List.set_cons_zero, List.set_cons_succ, i64_w, i32_w]
             rfl
            refine pure_ (i := 7) (N := some 121) (v := ?_) (a' := ?_) #[true,true,false,false,false,false,false,true,false,false,false,false] rfl rfl (any_of HT_.out (by kernel_rfl)) (fun _ _ _ h => h) (Or.inl ⟨by rfl, ?_⟩) ?_ ?_
            rotate_left
            ·
             intro w'
             go_simp
             with_reducible rfl
            rotate_left
            ·
             simp only [Act.put, List.setIfInBounds_toArray, List.set_cons_zero, List.set_cons_succ, i64_w, i32_w]
             rfl
            refine take_ (i := 2) (N := some 116) (v := ?_) (a' := ?_) #[true,true,true,false,false,false,false,true,false,false,false,false] rfl rfl (take_ofW HT_.out HW_.out (by kernel_rfl)) (fun _ _ _ h => h) (Or.inl ⟨by rfl, ?_⟩) hHeld ?_ ?_
            rotate_left
            ·
             rintro w' ⟨s0, s1, s2, s3, s4, s5, s6, s7, s8, s9, s10, s11⟩
             go_simp
             with_reducible rfl
            rotate_left
            ·
             simp only [Act.put, List.setIfInBounds_toArray, List.set_cons_zero, List.set_cons_succ, i64_w, i32_w]
             rfl
            refine pure_ (i := 3) (N := some 117) (v := ?_) (a' := ?_) #[true,true,true,true,false,false,false,true,false,false,false,false] rfl rfl (any_of HT_.out (by kernel_rfl)) (fun _ _ _ h => h) (Or.inl ⟨by rfl, ?_⟩) ?_ ?_
            rotate_left
            ·
             intro w'
             go_simp
             with_reducible rfl
            rotate_left
            ·
             simp only [Act.put, List.setIfInBounds_toArray, List.set_cons_zero, List.set_cons_succ, i64_w, i32_w]
             rfl
            refine pure_ (i := 4) (N := some 118) (v := ?_) (a' := ?_) #[true,true,true,true,true,false,false,true,false,false,false,false] rfl rfl (any_of HT_.out (by kernel_rfl)) (fun _ _ _ h => h) (Or.inl ⟨by rfl, ?_⟩) ?_ ?_
            rotate_left
            ·
             intro w'
             go_simp
             with_reducible rfl
            rotate_left
            ·
             simp only [Act.put, List.setIfInBounds_toArray, List.set_cons_zero, List.set_cons_succ, i64_w, i32_w]
             rfl
            refine take_ (i := 8) (N := some 122) (v := ?_) (a' := ?_) #[true,true,true,true,true,false,false,true,true,false,false,false] rfl rfl (take_ofW HT_.out HW_.out (by kernel_rfl)) (fun _ _ _ h => h) (Or.inl ⟨by rfl, ?_⟩) hHeld ?_ ?_
            rotate_left
            ·
             rintro w' ⟨s0, s1, s2, s3, s4, s5, s6, s7, s8, s9, s10, s11⟩
             go_simp
             with_reducible rfl
            rotate_left
            ·
             simp only [Act.put, List.setIfInBounds_toArray, List.set_cons_zero, List.set_cons_succ, i64_w, i32_w]
             rfl
            refine one_ (i := 5) (N := some 119) #[true,true,true,true,true,true,false,true,true,false,false,false] rfl rfl (one_of HT_.out (by kernel_rfl)) (by decide) (fun K hK => ?_)
            refine Kd.R_lit_step (Kd.int .u8) _ 5 ?hg (N := 119) ?hd (xs := ([(wrap64 (2 * a0_2)) % 256] : List Int)) (inner := [.int .u8 ((wrap64 (2 * a0_2)) % 256)]) (ok := fun _ => True) (okp := fun _ => True) ?hr ?hp (fun _ hk => hk) trivial (Below.refl _ _) (Nat.le_refl _) (by simp) ?_; (case hd => rfl); (case hg => rfl); (case hr => first | (go_simp; done) | (go_simp; rfl)); (case hp => exact (Reps.one (show Kd.M (Kd.int .u8) _ _ _ ((wrap64 (2 * a0_2)) % 256) [.int .u8 ((wrap64 (2 * a0_2)) % 256)] from rfl) (Reps.none _ _)))
            intro v324 w104 ho105 hb hg_ hnew_
            clear hg_ hnew_
            (first | rw [← Ny323.out] at ho105 | (simp only [Int.reduceToNat] at ho105; rw [← Ny323.out] at ho105))
            have n0_ := Aside0.mk (Kd.R_elder' (HO_4.out) (Kd.R_base ho105) hb)
            have n1_ := Aside0.mk (Kd.R_elder' (HO313.out) (Kd.R_base ho105) hb)
            have n2_ := Aside0.mk (Kd.R_elder' (HO316.out) (Kd.R_base ho105) hb)
            have n3_ := Aside0.mk (Kd.R_elder' (HO319.out) (Kd.R_base ho105) hb)
            have n4_ := Aside0.mk (Kd.R_elder' (HO322.out) (Kd.R_base ho105) hb)
            have n5_ := Aside0.mk (Kd.R_lower (Kd.R_new' (Kd.R_new' (Kd.R_new' (Kd.R_new' (Kd.R_new' (Kd.R_newM (M := fun k_ => (w.heap.size ≤ k_)) ho105 (below_size (HB.out)) (fun k_ h_ => h_)) (Kd.R_lt (HO_4.out))) (Kd.R_lt (HO313.out))) (Kd.R_lt (HO316.out))) (Kd.R_lt (HO319.out))) (Kd.R_lt (HO322.out))) (below_size (HB.out)))
            have n6_ := Aside0.mk (blk_below BK245.out hb)
            have n7_ := Aside0.mk (below_step (HB.out) hb)
            clear HO_4
            clear HO313
            clear HO316
            clear HO319
            clear HO322
            clear BK245
            clear HB
            have HO_4 := n0_
            have HO313 := n1_
            have HO316 := n2_
            have HO319 := n3_
            have HO322 := n4_
            have HO325 := n5_
            have BK245 := n6_
            have HB := n7_
            clear n0_ n1_ n2_ n3_ n4_ n5_ n6_ n7_
            clear hb ho105
            obtain ⟨Ao107, co107, eo107⟩ := Kd.R_slice HO325.out
            (first | subst eo107 | (injection eo107 with f1_ f2_ f3_; have f4_ := f1_.symm; have f5_ := f3_.symm; clear f1_ f2_ f3_; subst f4_; subst f5_))
            refine hK.out _ _ ⟨(blk_cell BK245.out 0).trans rfl, (blk_cell BK245.out 1).trans rfl, (blk_cell BK245.out 2).trans rfl, (blk_cell BK245.out 3).trans rfl, (blk_cell BK245.out 4).trans rfl, (blk_cell BK245.out 5).trans rfl, (blk_cell BK245.out 6).trans rfl, (blk_cell BK245.out 7).trans rfl, (blk_cell BK245.out 8).trans rfl, (blk_cell BK245.out 9).trans rfl, (blk_cell BK245.out 10).trans rfl, (blk_cell BK245.out 11).trans rfl⟩ (fun hHeld => ?_)
            clear hK K
            refine norm_ (a' := ?_) ?_ ?_
            rotate_left
            ·
             show Act.put _ (some 119) _ = _
             simp only [Act.put, List.setIfInBounds_toArray, List.set_cons_zero, List.set_cons_succ, i64_w, i32_w]
             rfl
            refine one_ (i := 6) (N := some 120) #[true,true,true,true,true,true,true,true,true,false,false,false] rfl rfl (one_of HT_.out (by kernel_rfl)) (by decide) (fun K hK => ?_)
            refine Kd.R_append_rows_step (Kd.int .u8) (w0 := w) w.heap.size (by rfl) (.tmp 114) (.tmp 119) 30 5 (.int .u8 0) 1 rfl Try.underlying30 info5 rfl (by decide) (by omega) v321 t320 y323 _ _ _ (fun k_ => (w.heap.size ≤ k_) ∧ some k_ ≠ (.slice Ao95 y247.length co95 : Value).ownBlock ∧ some k_ ≠ (.slice Ao97 t311.length co97 : Value).ownBlock ∧ some k_ ≠ (.slice Ao99 t314.length co99 : Value).ownBlock ∧ some k_ ≠ (.slice Ao101 t317.length co101 : Value).ownBlock ∧ some k_ ≠ (.slice Ao107 y323.length co107 : Value).ownBlock) (fun _ => False) rfl rfl ?aO ?aR (fun _ _ h => h) (fun _ h => h.elim) ?aF ?aB ?aS ?aL ?_
            (case aR => repeat (first | exact (Kd.R_reads' HO325.out).2.2 | (with_reducible refine Kd.C_alloc ?_ _) | (with_reducible refine Kd.C_drewN ?_ _) | (with_reducible refine Kd.C_drew ?_)))
            (case aB => exact (HB.out))
            (case aF => exact (fun k_ hk => ⟨(Nat.le_trans (below_size (HB.out)) hk), Kd.fresh' (Kd.R_lt (HO_4.out)) k_ hk, Kd.fresh' (Kd.R_lt (HO313.out)) k_ hk, Kd.fresh' (Kd.R_lt (HO316.out)) k_ hk, Kd.fresh' (Kd.R_lt (HO319.out)) k_ hk, Kd.fresh' (Kd.R_lt (HO325.out)) k_ hk⟩))
            (case aO => exact (Kd.R_mono HO322.out (fun _ hk => ⟨hk.1.1.1.1.1.1, ⟨hk.1.1.1.1.2, ⟨hk.1.1.1.2, ⟨hk.1.1.2, ⟨hk.1.2, hk.2⟩⟩⟩⟩⟩)))
            (case aS => exact (below_size (HB.out)))
            (case aL => have := LMc92.out; omega)
            intro v327 w106 ho hb hg hat
            rw [← Ny326.out] at ho
            have n0_ := Aside0.mk (Kd.R_after (ok := (fun k_ => (w.heap.size ≤ k_) ∧ some k_ ≠ (.slice Ao97 t311.length co97 : Value).ownBlock ∧ some k_ ≠ (.slice Ao99 t314.length co99 : Value).ownBlock ∧ some k_ ≠ (.slice Ao101 t317.length co101 : Value).ownBlock ∧ some k_ ≠ (.slice Ao107 y323.length co107 : Value).ownBlock)) (Kd.R_mono HO_4.out (fun _ hk => ⟨⟨hk.1.1.1.1.1, ⟨hk.1.1.1.1.2, ⟨hk.1.1.1.2, ⟨hk.1.1.2, hk.2⟩⟩⟩⟩, hk.1.2⟩)) hg hat)
            have n1_ := Aside0.mk (blk_grown (g := gb245) (o := .cells #[.int .i64 a0_0, .int .i64 a0_1, .int .i64 a0_2, .int .u16 a0_3, .int .u16 a0_4, .int .u16 a0_5, .slice A0_6 l0_6.length c0_6, .slice A0_7 l0_7.length c0_7, .int .i64 a0_8, .int .i64 a0_9, .int .i64 a0_10, .int .i64 a0_11] 49 (0, 0)) (BK245.out) hg (Kd.R_ne HO322.out BK245.out (by decide)))
            have n2_ := Aside0.mk (Kd.R_after (ok := (fun k_ => (w.heap.size ≤ k_) ∧ some k_ ≠ (.slice Ao95 y247.length co95 : Value).ownBlock ∧ some k_ ≠ (.slice Ao99 t314.length co99 : Value).ownBlock ∧ some k_ ≠ (.slice Ao101 t317.length co101 : Value).ownBlock ∧ some k_ ≠ (.slice Ao107 y323.length co107 : Value).ownBlock)) (Kd.R_mono HO313.out (fun _ hk => ⟨⟨hk.1.1.1.1.1.1, ⟨hk.1.1.1.1.2, ⟨hk.1.1.1.2, ⟨hk.1.1.2, hk.2⟩⟩⟩⟩, hk.1.2⟩)) hg hat)
            have n3_ := Aside0.mk (Kd.R_after (ok := (fun k_ => (w.heap.size ≤ k_) ∧ some k_ ≠ (.slice Ao95 y247.length co95 : Value).ownBlock ∧ some k_ ≠ (.slice Ao97 t311.length co97 : Value).ownBlock ∧ some k_ ≠ (.slice Ao101 t317.length co101 : Value).ownBlock ∧ some k_ ≠ (.slice Ao107 y323.length co107 : Value).ownBlock)) (Kd.R_mono HO316.out (fun _ hk => ⟨⟨hk.1.1.1.1.1.1, ⟨hk.1.1.1.1.2, ⟨hk.1.1.1.2, ⟨hk.1.1.2, hk.2⟩⟩⟩⟩, hk.1.2⟩)) hg hat)
            have n4_ := Aside0.mk (Kd.R_after (ok := (fun k_ => (w.heap.size ≤ k_) ∧ some k_ ≠ (.slice Ao95 y247.length co95 : Value).ownBlock ∧ some k_ ≠ (.slice Ao97 t311.length co97 : Value).ownBlock ∧ some k_ ≠ (.slice Ao99 t314.length co99 : Value).ownBlock ∧ some k_ ≠ (.slice Ao107 y323.length co107 : Value).ownBlock)) (Kd.R_mono HO319.out (fun _ hk => ⟨⟨hk.1.1.1.1.1.1, ⟨hk.1.1.1.1.2, ⟨hk.1.1.1.2, ⟨hk.1.1.2, hk.2⟩⟩⟩⟩, hk.1.2⟩)) hg hat)
            have n5_ := Aside0.mk (Kd.R_after (ok := (fun k_ => (w.heap.size ≤ k_) ∧ some k_ ≠ (.slice Ao95 y247.length co95 : Value).ownBlock ∧ some k_ ≠ (.slice Ao97 t311.length co97 : Value).ownBlock ∧ some k_ ≠ (.slice Ao99 t314.length co99 : Value).ownBlock ∧ some k_ ≠ (.slice Ao101 t317.length co101 : Value).ownBlock)) (Kd.R_mono HO325.out (fun _ hk => ⟨⟨hk.1.1.1.1.1.1, ⟨hk.1.1.1.1.2, ⟨hk.1.1.1.2, ⟨hk.1.1.2, hk.1.2⟩⟩⟩⟩, hk.2⟩)) hg hat)
            have n6_ := Aside0.mk (hb)
            have n7_ := Aside0.mk (ho)
            clear HO_4
            clear BK245
            clear HO313
            clear HO316
            clear HO319
            clear HO325
            clear HB
            clear HO322
            have HO_4 := n0_
            have BK245 := n1_
            have HO313 := n2_
            have HO316 := n3_
            have HO319 := n4_
            have HO325 := n5_
            have HB := n6_
            have HO328 := n7_
            clear n0_ n1_ n2_ n3_ n4_ n5_ n6_ n7_
            clear ho hb hg hat
            obtain ⟨Ao108, co108, eo108⟩ := Kd.R_slice HO328.out
            (first | subst eo108 | (injection eo108 with f1_ f2_ f3_; have f4_ := f1_.symm; have f5_ := f3_.symm; clear f1_ f2_ f3_; subst f4_; subst f5_))
            refine hK.out _ _ ⟨(blk_cell BK245.out 0).trans rfl, (blk_cell BK245.out 1).trans rfl, (blk_cell BK245.out 2).trans rfl, (blk_cell BK245.out 3).trans rfl, (blk_cell BK245.out 4).trans rfl, (blk_cell BK245.out 5).trans rfl, (blk_cell BK245.out 6).trans rfl, (blk_cell BK245.out 7).trans rfl, (blk_cell BK245.out 8).trans rfl, (blk_cell BK245.out 9).trans rfl, (blk_cell BK245.out 10).trans rfl, (blk_cell BK245.out 11).trans rfl⟩ (fun hHeld => ?_)
            clear hK K
            refine norm_ (a' := ?_) ?_ ?_
            rotate_left
            ·
             show Act.put _ (some 120) _ = _
             simp only [Act.put, List.setIfInBounds_toArray, List.set_cons_zero, List.set_cons_succ, i64_w, i32_w]
             rfl
            refine one_ (i := 9) (N := some 123) #[true,true,true,true,true,true,true,true,true,true,false,false] rfl rfl (one_of HT_.out (by kernel_rfl)) (by decide) (fun K hK => ?_)
            refine goes_ Try.func49 (by kernel_rfl) rfl #[.slice Ao108 y326.length co108, .slice A0_7 l0_7.length c0_7] (by rfl) rfl rfl (by (try simp only [List.map_toArray, List.map_cons, List.map_nil]); first | done | rfl | (simp only [List.length_drop, List.length_take]; rfl)) ?_
            with_reducible refine (busbarref5_words.calls kj3 (fun k_ => some k_ = (.slice Ao108 y326.length co108 : Value).ownBlock) _ _ y326 _ _ l0_7 t329 _ ?side1 ?side2 ?side3 A93.out).mono ?_
            (case side1 => exact Kd.R_V (Kd.R_tight rfl (Kd.R_types (HO328.out) BK245.out (by decide))))
            (case side2 => repeat (first | exact (Kd.C_below HR0_7.out HB.out) | (with_reducible refine Kd.C_alloc ?_ _) | (with_reducible refine Kd.C_drewN ?_ _) | (with_reducible refine Kd.C_drew ?_)))
            (case side3 => exact HC0_7.out)
            rintro e w109 ⟨v330, rfl, ho0, hb⟩
            refine ⟨_, rfl, ?_⟩
            have n0_ := Aside0.mk (Kd.R_below (HO_4.out) hb)
            have n1_ := Aside0.mk (Kd.R_below (HO313.out) hb)
            have n2_ := Aside0.mk (Kd.R_below (HO316.out) hb)
            have n3_ := Aside0.mk (Kd.R_below (HO319.out) hb)
            have n4_ := Aside0.mk (Kd.R_below (HO325.out) hb)
            have n5_ := Aside0.mk (Kd.R_below (HO328.out) hb)
            have n6_ := Aside0.mk (Kd.V_lower (Kd.V_mono (ok' := fun k_ => (w.heap.size ≤ k_) ∧ some k_ ≠ (.slice Ao95 y247.length co95 : Value).ownBlock ∧ some k_ ≠ (.slice Ao97 t311.length co97 : Value).ownBlock ∧ some k_ ≠ (.slice Ao99 t314.length co99 : Value).ownBlock ∧ some k_ ≠ (.slice Ao101 t317.length co101 : Value).ownBlock ∧ some k_ ≠ (.slice Ao107 y323.length co107 : Value).ownBlock ∧ k_ ≠ gb245) ho0 (fun k_ hk_ => ⟨Or.elim hk_ (fun hs_ => ((Kd.R_types (HO328.out) BK245.out (by decide)).1 k_ hs_.symm).1.1) (fun hn_ => (Nat.le_trans (below_size (HB.out)) hn_)), Or.elim hk_ (fun hs_ => ((Kd.R_types (HO328.out) BK245.out (by decide)).1 k_ hs_.symm).1.2.1) (fun hn_ => (Kd.fresh' (Kd.R_lt (HO_4.out)) k_ hn_)), Or.elim hk_ (fun hs_ => ((Kd.R_types (HO328.out) BK245.out (by decide)).1 k_ hs_.symm).1.2.2.1) (fun hn_ => (Kd.fresh' (Kd.R_lt (HO313.out)) k_ hn_)), Or.elim hk_ (fun hs_ => ((Kd.R_types (HO328.out) BK245.out (by decide)).1 k_ hs_.symm).1.2.2.2.1) (fun hn_ => (Kd.fresh' (Kd.R_lt (HO316.out)) k_ hn_)), Or.elim hk_ (fun hs_ => ((Kd.R_types (HO328.out) BK245.out (by decide)).1 k_ hs_.symm).1.2.2.2.2.1) (fun hn_ => (Kd.fresh' (Kd.R_lt (HO319.out)) k_ hn_)), Or.elim hk_ (fun hs_ => ((Kd.R_types (HO328.out) BK245.out (by decide)).1 k_ hs_.symm).1.2.2.2.2.2) (fun hn_ => (Kd.fresh' (Kd.R_lt (HO325.out)) k_ hn_)), Or.elim hk_ (fun hs_ => ((Kd.R_types (HO328.out) BK245.out (by decide)).1 k_ hs_.symm).2) (fun hn_ => (Kd.freshB (g := gb245) (o := .cells #[.int .i64 a0_0, .int .i64 a0_1, .int .i64 a0_2, .int .u16 a0_3, .int .u16 a0_4, .int .u16 a0_5, .slice A0_6 l0_6.length c0_6, .slice A0_7 l0_7.length c0_7, .int .i64 a0_8, .int .i64 a0_9, .int .i64 a0_10, .int .i64 a0_11] 49 (0, 0)) (BK245.out) k_ hn_))⟩)) (below_size (HB.out)))
            have n7_ := Aside0.mk (blk_below BK245.out hb)
            have n8_ := Aside0.mk (below_step (HB.out) hb)
            clear HO_4
            clear HO313
            clear HO316
            clear HO319
            clear HO325
            clear HO328
            clear BK245
            clear HB
            have HO_4 := n0_
            have HO313 := n1_
            have HO316 := n2_
            have HO319 := n3_
            have HO325 := n4_
            have HO328 := n5_
            have HO331 := n6_
            have BK245 := n7_
            have HB := n8_
            clear n0_ n1_ n2_ n3_ n4_ n5_ n6_ n7_ n8_
            (try clear hb)
            (try clear hb2)
            (try clear hk)
            (try clear hi)
            (try clear ho0)
            refine hK.out _ _ ⟨(blk_cell BK245.out 0).trans rfl, (blk_cell BK245.out 1).trans rfl, (blk_cell BK245.out 2).trans rfl, (blk_cell BK245.out 3).trans rfl, (blk_cell BK245.out 4).trans rfl, (blk_cell BK245.out 5).trans rfl, (blk_cell BK245.out 6).trans rfl, (blk_cell BK245.out 7).trans rfl, (blk_cell BK245.out 8).trans rfl, (blk_cell BK245.out 9).trans rfl, (blk_cell BK245.out 10).trans rfl, (blk_cell BK245.out 11).trans rfl⟩ (fun hHeld => ?_)
            clear hK K
            refine norm_ (a' := ?_) ?_ ?_
            rotate_left
            ·
             show Act.put _ (some 123) _ = _
             simp only [Act.put, List.setIfInBounds_toArray, List.set_cons_zero, List.set_cons_succ, i64_w, i32_w]
             rfl
            refine pure_ (i := 10) (N := some 2) (v := ?_) (a' := ?_) #[true,true,true,true,true,true,true,true,true,true,true,false] rfl rfl (any_of HT_.out (by kernel_rfl)) (fun _ _ _ h => h) (Or.inl ⟨by rfl, ?_⟩) ?_ ?_
            rotate_left
            ·
             intro w'
             go_simp
             with_reducible rfl
            rotate_left
            ·
             simp only [Act.put, List.setIfInBounds_toArray, List.set_cons_zero, List.set_cons_succ, i64_w, i32_w]
             rfl
            refine pure_ (i := 11) (N := some 3) (v := ?_) (a' := ?_) #[true,true,true,true,true,true,true,true,true,true,true,true] rfl rfl (any_of HT_.out (by kernel_rfl)) (fun _ _ _ h => h) (Or.inl ⟨by rfl, ?_⟩) ?_ ?_
            rotate_left
            ·
             intro w'
             go_simp
             with_reducible rfl
            rotate_left
            ·
             simp only [Act.put, List.setIfInBounds_toArray, List.set_cons_zero, List.set_cons_succ, i64_w, i32_w]
             rfl
            refine done_ (done_of HT_.out (by kernel_rfl)) ?_
            try go_wp2
            go_ret2
            exact ⟨_, by first | rfl | (simp [errW_none, errW_some] <;> rfl) | (simp [*, errW_none, errW_some] <;> rfl), Kd.V_mono HO331.out (fun _ hk => by first | exact hk.1 | exact hk), HB.out⟩
           ·
            rw [if_neg c92] at H
            exact absurd H (by simp)
          ·
           rw [if_neg c87] at H
           have c87b0 : (a0_0 == 23) = false := beq_eq_false_iff_ne.mpr c87
           have c87b1 : (a0_0 != 23) = true := bne_iff_ne.mpr c87
           obtain ⟨y332, hy332⟩ : ∃ y_ : List Int, y_ = (([14, (a0_10) % 256, (a0_11) % 256] : List Int)) := ⟨_, rfl⟩
           replace H : (if y247.length + y332.length < 140737488355328 then (some ((y247 ++ y332), 0)) else (none)) = some (r1, r2) := by first | (rw [hy332]; with_reducible exact H) | (have H2_ := (Option.bind_some _ _).symm.trans H; rw [hy332]; with_reducible exact H2_) | (have H2_ := (Option.bind_some _ _).symm.trans H; with_reducible exact H2_) | with_reducible exact H | (rw [hy332]; exact H) | exact H
           have Ny332 := Aside0.mk hy332
           clear hy332
           by_cases c110 : y247.length + y332.length < 140737488355328
           ·
            rw [if_pos c110] at H
            have LMc110 := Aside0.mk c110
            clear c110
            obtain ⟨y335, hy335⟩ : ∃ y_ : List Int, y_ = (y247 ++ y332) := ⟨_, rfl⟩
            replace H : (some (y335, 0)) = some (r1, r2) := by first | (rw [hy335]; with_reducible exact H) | (have H2_ := (Option.bind_some _ _).symm.trans H; rw [hy335]; with_reducible exact H2_) | (have H2_ := (Option.bind_some _ _).symm.trans H; with_reducible exact H2_) | with_reducible exact H | (rw [hy335]; exact H) | exact H
            have Ny335 := Aside0.mk hy335
            clear hy335
            simp only [Option.some.injEq, Prod.mk.injEq] at H
            obtain ⟨rfl, rfl⟩ := H
            obtain ⟨hcz111_0, hcz111_1, hcz111_2, hcz111_3, hcz111_4, hcz111_5, hcz111_6, hcz111_7, hcz111_8, hcz111_9, hcz111_10, hcz111_11⟩ := blkc12 BK245.out
            obtain ⟨hfz111_0, hfz111_1, hfz111_2, hfz111_3, hfz111_4, hfz111_5, hfz111_6, hfz111_7, hfz111_8, hfz111_9, hfz111_10, hfz111_11⟩ := blkf12 BK245.out
            go_wp2_with (first | ((with_reducible refine gate_dst (N := 131) rfl ?_); refine Kd.R_lit (Kd.int .u8) _ 5 ?hg (N := 131) ?hd (xs := ([14, (a0_10) % 256, (a0_11) % 256] : List Int)) (inner := [.int .u8 14, .int .u8 ((a0_10) % 256), .int .u8 ((a0_11) % 256)]) (ok := fun _ => True) (okp := fun _ => True) ?hr ?hp (fun _ hk => hk) trivial (Below.refl _ _) (Nat.le_refl _) (by simp) ?_; (case hd => rfl); (case hg => rfl); (case hr => first | (go_simp; done) | (go_simp; rfl)); (case hp => exact (Reps.one (show Kd.M (Kd.int .u8) _ _ _ 14 [.int .u8 14] from rfl) (Reps.one (show Kd.M (Kd.int .u8) _ _ _ ((a0_10) % 256) [.int .u8 ((a0_10) % 256)] from rfl) (Reps.one (show Kd.M (Kd.int .u8) _ _ _ ((a0_11) % 256) [.int .u8 ((a0_11) % 256)] from rfl) (Reps.none _ _))))); intro v333 w112 ho113 hb hg_ hnew_; clear hg_ hnew_; (first | rw [← Ny332.out] at ho113 | (simp only [Int.reduceToNat] at ho113; rw [← Ny332.out] at ho113)); have HO334 := Aside0.mk (Kd.R_lower (Kd.R_new' (Kd.R_newM (M := fun k_ => (w.heap.size ≤ k_)) ho113 (below_size (HB.out)) (fun k_ h_ => h_)) (Kd.R_lt (HO_4.out))) (below_size (HB.out))); replace HO_4 := Aside0.mk (Kd.R_elder' (HO_4.out) (Kd.R_base ho113) hb); replace BK245 := Aside0.mk (blk_below BK245.out hb); replace HB := Aside0.mk (below_step (HB.out) hb); clear hb ho113; obtain ⟨Ao115, co115, eo115⟩ := Kd.R_slice HO334.out; subst eo115) | ((with_reducible refine gate_builtin (b := .append) (xs := #[.tmp 124, .tmp 131]) rfl ?_); at_builtin; refine Kd.R_append_rows (Kd.int .u8) (w0 := w) w.heap.size rfl (.tmp 124) (.tmp 131) 30 5 (.int .u8 0) 1 rfl Try.underlying30 info5 rfl (by decide) (by omega) v248 y247 y332 _ _ _ (fun k_ => (w.heap.size ≤ k_) ∧ some k_ ≠ (.slice Ao115 y332.length co115 : Value).ownBlock) (fun _ => False) rfl rfl ?aO ?aR (fun _ _ h => h) (fun _ h => h.elim) ?aF ?aB ?aS ?aL ?_; (case aR => repeat (first | exact (Kd.R_reads' HO334.out).2.2 | (with_reducible refine Kd.C_alloc ?_ _) | (with_reducible refine Kd.C_drewN ?_ _) | (with_reducible refine Kd.C_drew ?_))); (case aB => exact (HB.out)); (case aF => exact (fun k_ hk => ⟨(Nat.le_trans (below_size (HB.out)) hk), Kd.fresh' (Kd.R_lt (HO334.out)) k_ hk⟩)); (case aO => exact (HO_4.out)); (case aS => exact (below_size (HB.out))); (case aL => have := LMc110.out; omega); intro v336 w114 ho hb hg hat; rw [← Ny335.out] at ho; replace BK245 := Aside0.mk (blk_grown (g := gb245) (o := .cells #[.int .i64 a0_0, .int .i64 a0_1, .int .i64 a0_2, .int .u16 a0_3, .int .u16 a0_4, .int .u16 a0_5, .slice A0_6 l0_6.length c0_6, .slice A0_7 l0_7.length c0_7, .int .i64 a0_8, .int .i64 a0_9, .int .i64 a0_10, .int .i64 a0_11] 49 (0, 0)) (BK245.out) hg (Kd.R_ne HO_4.out BK245.out (by decide))); replace HO334 := Aside0.mk (Kd.R_after (ok := (fun k_ => (w.heap.size ≤ k_))) (Kd.R_mono HO334.out (fun _ hk => ⟨hk.1.1, hk.2⟩)) hg hat); replace HB := Aside0.mk (hb); have HO337 := Aside0.mk (ho); clear HO_4; clear ho hb hg hat))
            go_ret2
            exact ⟨_, by first | rfl | (simp [errW_none, errW_some] <;> rfl) | (simp [*, errW_none, errW_some] <;> rfl), Kd.R_V (Kd.R_mono HO337.out (fun _ hk => by first | exact hk.1 | exact hk)), HB.out⟩
           ·
            rw [if_neg c110] at H
            exact absurd H (by simp)
 ·
  replace c3 := Bool.eq_false_iff.mpr c3
  subst c3
  have H1 : (some (([] : List Int), 1)) = some (r1, r2) := by rw [if_neg (show ¬ (false = true) by decide)] at H; exact H
  clear H
  have H := H1
  clear H1
  simp only [Option.some.injEq, Prod.mk.injEq] at H
  obtain ⟨rfl, rfl⟩ := H
  go_enter Try.func28, Try.ntmps28
  go_wp2_with (first | ((with_reducible refine gate_dst (N := 1) rfl ?_); refine box_event ?hg (N := 1) ?hd (cs := #[.int .i64 a0_0, .int .i64 a0_1, .int .i64 a0_2, .int .u16 a0_3, .int .u16 a0_4, .int .u16 a0_5, .slice A0_6 l0_6.length c0_6, .slice A0_7 l0_7.length c0_7, .int .i64 a0_8, .int .i64 a0_9, .int .i64 a0_10, .int .i64 a0_11]) (t := 49) ?hr ?_; (case hd => rfl); (case hg => rfl); (case hr => first | (go_simp; done) | (go_simp; rfl)); intro gb245 hg w116 hbox hb; have BK245 := Aside0.mk (hbox); have GW245 := Aside0.mk ((by rw [hg]; exact (below_size (HB.out)) : w.heap.size ≤ gb245)); have GE245 := Aside0.mk ((by rw [hg]; exact (below_size (HB.out)) : w.heap.size ≤ gb245)); replace HB := Aside0.mk (below_step (HB.out) hb); clear hb hbox hg; obtain ⟨hcz117_0, hcz117_1, hcz117_2, hcz117_3, hcz117_4, hcz117_5, hcz117_6, hcz117_7, hcz117_8, hcz117_9, hcz117_10, hcz117_11⟩ := blkc12 BK245.out; obtain ⟨hfz117_0, hfz117_1, hfz117_2, hfz117_3, hfz117_4, hfz117_5, hfz117_6, hfz117_7, hfz117_8, hfz117_9, hfz117_10, hfz117_11⟩ := blkf12 BK245.out) | ((with_reducible refine gate_callee (f := 45) rfl ?_); refine goesL_ (some 6) rfl rfl Try.func45 (by kernel_rfl) rfl #[.agg #[.int .i64 a0_0, .int .i64 a0_1, .int .i64 a0_2, .int .u16 a0_3, .int .u16 a0_4, .int .u16 a0_5, .slice A0_6 l0_6.length c0_6, .slice A0_7 l0_7.length c0_7, .int .i64 a0_8, .int .i64 a0_9, .int .i64 a0_10, .int .i64 a0_11]] rfl (by (try simp only [List.map_toArray, List.map_cons, List.map_nil]); first | done | rfl | (simp only [List.length_drop, List.length_take]; rfl)) ?_; (with_reducible refine (busbarref5_Right.calls k a0_0 a0_1 a0_2 a0_3 a0_4 a0_5 _ _ l0_6 _ _ l0_7 a0_8 a0_9 a0_10 a0_11 false _ ?side1 ?side2 ?side3 ?side4 A2.out).mono ?_); (case side1 => repeat (first | exact (Kd.C_below HR0_6.out HB.out) | (with_reducible refine Kd.C_alloc ?_ _) | (with_reducible refine Kd.C_drewN ?_ _) | (with_reducible refine Kd.C_drew ?_))); (case side2 => exact HC0_6.out); (case side3 => repeat (first | exact (Kd.C_below HR0_7.out HB.out) | (with_reducible refine Kd.C_alloc ?_ _) | (with_reducible refine Kd.C_drewN ?_ _) | (with_reducible refine Kd.C_drew ?_))); (case side4 => exact HC0_7.out); rintro e w118 ⟨rfl, hb⟩; refine ⟨_, rfl, ?_⟩; replace BK245 := Aside0.mk (blk_below BK245.out hb); replace HB := Aside0.mk (below_step (HB.out) hb); (try clear hb); (try clear hi)))
  go_ret2
  exact ⟨_, by first | rfl | (simp [errW_none, errW_some] <;> rfl) | (simp [*, errW_none, errW_some] <;> rfl), Kd.R_V (base := w.heap.size) (v := .slice none 0 0) (by first | exact Kd.R_nil _ _ _ _ _ | exact Kd.N_nil _ _ _ _ _ | exact Kd.V_nil _ _ _ _ _ | exact Kd.Q_nil _ _ _ _ _ | exact Kd.S_nil _ _ _ _ _), HB.out⟩
end Go.Proofs.Ytakiojmjalbfpaa.PFlow
set_option linter.unusedVariables false
namespace Go.Proofs.Ytakiojmjalbfpaa.LemWithinFlow
open Go.RowKit Go.Proofs.Ytakiojmjalbfpaa.PFlow Go.Proofs.YtakiojmjalbfpaaW.PrintWords Go.Proofs.YtakiojmjalbfpaaW.PrintLast Go.Proofs.YtakiojmjalbfpaaW.PrintMore Go.Proofs.Ytakiojmjalbfpaa.Num
theorem within_eq (x n : Int) (hn : 0 < n) (hn2 : n < 4611686018427387904) : busbarlaw0_Within.f x n = some (x % n) := by
  have h0 := Int.emod_nonneg x (show n ≠ 0 by omega)
  have h1 := Int.emod_lt_of_pos x hn
  have ht := Int.tmod_eq_emod (a := x) (b := n)
  have hna : (n.natAbs : Int) = n := by omega
  unfold busbarlaw0_Within.f
  rw [if_neg (by omega)]
  by_cases hc : 0 ≤ x ∨ n ∣ x
  · rw [if_pos hc] at ht
    rw [if_neg (by omega)]
    congr 1
    omega
  · rw [if_neg hc, hna] at ht
    have hne : x % n ≠ 0 := fun h => hc (.inr (Int.dvd_of_emod_eq_zero h))
    rw [if_pos (by omega), wrap64_id (by omega) (by omega)]
    congr 1
    omega
end Go.Proofs.Ytakiojmjalbfpaa.LemWithinFlow
set_option linter.unusedVariables false
namespace Go.Proofs.Ytakiojmjalbfpaa.LemDigitFlow
open Go.RowKit Go.Proofs.Ytakiojmjalbfpaa.PFlow Go.Proofs.YtakiojmjalbfpaaW.PrintWords Go.Proofs.YtakiojmjalbfpaaW.PrintLast Go.Proofs.YtakiojmjalbfpaaW.PrintMore Go.Proofs.Ytakiojmjalbfpaa.Num Go.Proofs.Ytakiojmjalbfpaa.LemWithinFlow
theorem digit_eq (n d m : Int) (hn : -9223372036854775808 ≤ n ∧ n < 9223372036854775808) (hd : 2 ≤ d) (hm : 0 < m) (hm2 : m < 4611686018427387904) : busbarlaw0_Digit.f n d m = some (Int.tdiv n d % m) := by
  unfold busbarlaw0_Digit.f
  have h : -9223372036854775808 ≤ Int.tdiv n d ∧ Int.tdiv n d < 9223372036854775808 := by
    have h3 : (Int.natAbs (Int.tdiv n d)) ≤ Int.natAbs n / 2 := by rw [Int.natAbs_tdiv]; exact Nat.div_le_div_left (by omega) (by omega)
    omega
  rw [if_neg (by omega), wrap64_id h.1 h.2, within_eq _ m hm hm2]
  rfl
end Go.Proofs.Ytakiojmjalbfpaa.LemDigitFlow
set_option linter.unusedVariables false
set_option linter.unusedSimpArgs false
namespace Go.Proofs.Ytakiojmjalbfpaa.LemAskBFlow
open Go.RowKit Go.Proofs.Ytakiojmjalbfpaa.PFlow Go.Proofs.YtakiojmjalbfpaaW.PrintWords Go.Proofs.YtakiojmjalbfpaaW.PrintLast Go.Proofs.YtakiojmjalbfpaaW.PrintMore Go.Proofs.Ytakiojmjalbfpaa.Num Go.Proofs.Ytakiojmjalbfpaa.LemWithinFlow Go.Proofs.Ytakiojmjalbfpaa.LemDigitFlow Go.Proofs.Ytakiojmjalbfpaa.LemHeadFlow
theorem p9 (k : Nat) (f : Int) (b : Bool) (a0 a1 a2 a3 a4 a5 : Int) (l6 : List Bool) (l7 : List Int) (a8 a9 a10 a11 : Int) : busbarref5_plain.j9 (k + 1) f b a0 a1 a2 a3 a4 a5 l6 l7 a8 a9 a10 a11 = some (!b && (f == 43 || (a10 == 0 && a11 == 0))) := by
  rw [busbarref5_plain.j9]
  cases b
  · rw [if_neg (by decide)]
    by_cases h : f = 43
    · rw [if_pos h]; simp [h]
    · rw [if_neg h]
      by_cases h1 : a10 = 0
      · rw [if_pos h1]
        by_cases h2 : a11 = 0
        · rw [if_pos h2]; simp [h1, h2]
        · rw [if_neg h2]; simp [h, h1, h2]
      · rw [if_neg h1]; simp [beq_eq_false_iff_ne.mpr h, beq_eq_false_iff_ne.mpr h1]
  · rw [if_pos rfl]; rfl
theorem p8 (k : Nat) (f : Int) (b : Bool) (a0 a1 a2 a3 a4 a5 : Int) (l6 : List Bool) (l7 : List Int) (a8 a9 a10 a11 : Int) : busbarref5_plain.j8 (k + 1 + 1) f b a0 a1 a2 a3 a4 a5 l6 l7 a8 a9 a10 a11 = some (!b && ((f == 23 || (a8 == 0 && a9 == 0)) && (f == 43 || (a10 == 0 && a11 == 0)))) := by
  rw [busbarref5_plain.j8, p9, p9, p9]
  cases b
  · rw [if_neg (by decide)]
    by_cases h : f = 23
    · rw [if_pos h]; simp [h]
    · rw [if_neg h]
      by_cases h1 : a8 = 0
      · rw [if_pos h1]; simp [beq_eq_false_iff_ne.mpr h, h1, bne]
      · rw [if_neg h1]; simp [beq_eq_false_iff_ne.mpr h, beq_eq_false_iff_ne.mpr h1]
  · rw [if_pos rfl]; rfl
theorem p7 (k : Nat) (f : Int) (b : Bool) (a0 a1 a2 a3 a4 a5 : Int) (l6 : List Bool) (l7 : List Int) (a8 a9 a10 a11 : Int) : busbarref5_plain.j7 (k + 1 + 1 + 1) f b a0 a1 a2 a3 a4 a5 l6 l7 a8 a9 a10 a11 = some (!b && ((f == 16 || f == 23 || !decide ((l7.length : Int) > 0)) && ((f == 23 || (a8 == 0 && a9 == 0)) && (f == 43 || (a10 == 0 && a11 == 0))))) := by
  rw [busbarref5_plain.j7, p8, p8]
  cases b
  · rw [if_neg (by decide)]
    by_cases h : f = 16
    · rw [if_pos h]; simp [h]
    · rw [if_neg h]
      by_cases h1 : f = 23
      · rw [if_pos h1]; simp [h1]
      · rw [if_neg h1]; simp [beq_eq_false_iff_ne.mpr h, beq_eq_false_iff_ne.mpr h1]
  · rw [if_pos rfl]; rfl
theorem p6 (k : Nat) (f : Int) (b : Bool) (a0 a1 a2 a3 a4 a5 : Int) (l6 : List Bool) (l7 : List Int) (a8 a9 a10 a11 : Int) : busbarref5_plain.j6 (k + 1 + 1 + 1 + 1) f b a0 a1 a2 a3 a4 a5 l6 l7 a8 a9 a10 a11 = some (!b && ((f == 15 || !decide ((l6.length : Int) > 0)) && ((f == 16 || f == 23 || !decide ((l7.length : Int) > 0)) && ((f == 23 || (a8 == 0 && a9 == 0)) && (f == 43 || (a10 == 0 && a11 == 0)))))) := by
  rw [busbarref5_plain.j6, p7, p7]
  cases b
  · rw [if_neg (by decide)]
    by_cases h : f = 15
    · rw [if_pos h]; simp [h]
    · rw [if_neg h]; simp [beq_eq_false_iff_ne.mpr h]
  · rw [if_pos rfl]; rfl
theorem p5 (k : Nat) (f : Int) (b : Bool) (a0 a1 a2 a3 a4 a5 : Int) (l6 : List Bool) (l7 : List Int) (a8 a9 a10 a11 : Int) : busbarref5_plain.j5 (k + 1 + 1 + 1 + 1 + 1) f b a0 a1 a2 a3 a4 a5 l6 l7 a8 a9 a10 a11 = some (!b && ((f == 22 || (a4 == 0 && a5 == 0)) && ((f == 15 || !decide ((l6.length : Int) > 0)) && ((f == 16 || f == 23 || !decide ((l7.length : Int) > 0)) && ((f == 23 || (a8 == 0 && a9 == 0)) && (f == 43 || (a10 == 0 && a11 == 0))))))) := by
  rw [busbarref5_plain.j5, p6, p6, p6]
  cases b
  · rw [if_neg (by decide)]
    by_cases h : f = 22
    · rw [if_pos h]; simp [h]
    · rw [if_neg h]
      by_cases h1 : a4 = 0
      · rw [if_pos h1]; simp [beq_eq_false_iff_ne.mpr h, h1, bne]
      · rw [if_neg h1]; simp [beq_eq_false_iff_ne.mpr h, beq_eq_false_iff_ne.mpr h1]
  · rw [if_pos rfl]; rfl
theorem p4 (k : Nat) (f : Int) (b : Bool) (a0 a1 a2 a3 a4 a5 : Int) (l6 : List Bool) (l7 : List Int) (a8 a9 a10 a11 : Int) : busbarref5_plain.j4 (k + 1 + 1 + 1 + 1 + 1 + 1) f b a0 a1 a2 a3 a4 a5 l6 l7 a8 a9 a10 a11 = some (!b && ((f == 5 || f == 6 || a3 == 0) && ((f == 22 || (a4 == 0 && a5 == 0)) && ((f == 15 || !decide ((l6.length : Int) > 0)) && ((f == 16 || f == 23 || !decide ((l7.length : Int) > 0)) && ((f == 23 || (a8 == 0 && a9 == 0)) && (f == 43 || (a10 == 0 && a11 == 0)))))))) := by
  rw [busbarref5_plain.j4, p5, p5]
  cases b
  · rw [if_neg (by decide)]
    by_cases h : f = 5
    · rw [if_pos h]; simp [h]
    · rw [if_neg h]
      by_cases h1 : f = 6
      · rw [if_pos h1]; simp [h1]
      · rw [if_neg h1]; simp [beq_eq_false_iff_ne.mpr h, beq_eq_false_iff_ne.mpr h1, bne]
  · rw [if_pos rfl]; rfl
def tl4 (f a3 a4 a5 : Int) (l6 : List Bool) (l7 : List Int) (a8 a9 a10 a11 : Int) : Bool := (f == 5 || f == 6 || a3 == 0) && ((f == 22 || (a4 == 0 && a5 == 0)) && ((f == 15 || !decide ((l6.length : Int) > 0)) && ((f == 16 || f == 23 || !decide ((l7.length : Int) > 0)) && ((f == 23 || (a8 == 0 && a9 == 0)) && (f == 43 || (a10 == 0 && a11 == 0))))))
theorem plain_eq (f : Int) (a1 a2 a3 a4 a5 : Int) (l6 : List Bool) (l7 : List Int) (a8 a9 a10 a11 : Int) (h1 : 1 ≤ f) (ha : f ≤ 4 ∨ f = 15 ∨ f = 16 ∨ f = 23 ∨ ((f = 5 ∨ f = 6 ∨ f = 22) ∧ a2 = 0) ∨ (a1 = 0 ∧ a2 = 0 ∧ f ≠ 5 ∧ f ≠ 6 ∧ f ≠ 22)) {k : Nat} (hk : 12 ≤ k) (ht : tl4 f a3 a4 a5 l6 l7 a8 a9 a10 a11 = true) : busbarref5_plain.f k f a1 a2 a3 a4 a5 l6 l7 a8 a9 a10 a11 = some true := by
  obtain ⟨k, rfl⟩ : ∃ m, k = m + 1 + 1 + 1 + 1 + 1 + 1 + 1 + 1 + 1 + 1 := ⟨k - 10, by omega⟩
  have e4 : busbarref5_plain.j4 (k + 1 + 1 + 1 + 1 + 1 + 1) f false f a1 a2 a3 a4 a5 l6 l7 a8 a9 a10 a11 = some true := by
    rw [p4]
    exact congrArg some (by rw [Bool.not_false, Bool.true_and]; exact ht)
  have e3 : ∀ x4 x5 : Bool, (x4 = true ∨ x5 = true ∨ a2 = 0) → busbarref5_plain.j3 (k + 1 + 1 + 1 + 1 + 1 + 1 + 1) f x4 x5 false f a1 a2 a3 a4 a5 l6 l7 a8 a9 a10 a11 = some true := fun x4 x5 h => by
    rw [busbarref5_plain.j3, if_neg (by decide)]
    by_cases h4 : x4 = true
    · rw [if_pos h4]; exact e4
    · rw [if_neg h4]
      by_cases h5 : x5 = true
      · rw [if_pos h5]; exact e4
      · rw [if_neg h5, show (a2 != 0) = false by rcases h with h | h | h <;> simp_all]
        exact e4
  have e2 : ∀ x4 x5 x6 : Bool, (x4 = true ∨ x5 = true ∨ (x6 = true ∧ a2 = 0) ∨ (a1 = 0 ∧ a2 = 0)) → busbarref5_plain.j2 (k + 1 + 1 + 1 + 1 + 1 + 1 + 1 + 1) f x4 x5 x6 f a1 a2 a3 a4 a5 l6 l7 a8 a9 a10 a11 = some true := fun x4 x5 x6 h => by
    rw [busbarref5_plain.j2]
    by_cases h4 : x4 = true
    · rw [if_pos h4]; exact e3 _ _ (.inl h4)
    · rw [if_neg h4]
      by_cases h5 : x5 = true
      · rw [if_pos h5]; exact e3 _ _ (.inr (.inl h5))
      · rw [if_neg h5]
        have h' : (x6 = true ∧ a2 = 0) ∨ (a1 = 0 ∧ a2 = 0) := by rcases h with h | h | h | h <;> simp_all
        by_cases h6 : x6 = true
        · rw [if_pos h6]; exact e3 _ _ (.inr (.inr (by rcases h' with h | h <;> exact h.2)))
        · have h'' : a1 = 0 ∧ a2 = 0 := h'.resolve_left (fun h => h6 h.1)
          rw [if_neg h6, show (a1 != 0) = false by simp [h''.1]]; exact e3 _ _ (.inr (.inr h''.2))
  have e1 : ∀ x4 x5 : Bool, (x4 = true ∨ x5 = true ∨ ((f = 5 ∨ f = 6 ∨ f = 22) ∧ a2 = 0) ∨ (a1 = 0 ∧ a2 = 0)) → busbarref5_plain.j1 (k + 1 + 1 + 1 + 1 + 1 + 1 + 1 + 1 + 1) f x4 x5 f a1 a2 a3 a4 a5 l6 l7 a8 a9 a10 a11 = some true := fun x4 x5 h => by
    rw [busbarref5_plain.j1]
    by_cases g5 : f = 5
    · rw [if_pos g5]; exact e2 _ _ _ (by rcases h with h | h | h | h; exact .inl h; exact .inr (.inl h); exact .inr (.inr (.inl ⟨rfl, h.2⟩)); exact .inr (.inr (.inr h)))
    · rw [if_neg g5]
      by_cases g6 : f = 6
      · rw [if_pos g6]; exact e2 _ _ _ (by rcases h with h | h | h | h; exact .inl h; exact .inr (.inl h); exact .inr (.inr (.inl ⟨rfl, h.2⟩)); exact .inr (.inr (.inr h)))
      · rw [if_neg g6]; exact e2 _ _ _ (by rcases h with h | h | h | h; exact .inl h; exact .inr (.inl h); exact .inr (.inr (.inl ⟨by simp; omega, h.2⟩)); exact .inr (.inr (.inr h)))
  unfold busbarref5_plain.f
  rw [if_pos h1, busbarref5_plain.j0]
  by_cases g15 : f = 15
  · rw [if_pos g15]; exact e1 _ _ (.inr (.inl rfl))
  · rw [if_neg g15]
    by_cases g16 : f = 16
    · rw [if_pos g16]; exact e1 _ _ (.inr (.inl rfl))
    · rw [if_neg g16]
      refine e1 _ _ ?_
      rcases ha with h | h | h | h | h | h
      · exact .inl (decide_eq_true h)
      · exact absurd h g15
      · exact absurd h g16
      · exact .inr (.inl (by simp [h]))
      · exact .inr (.inr (.inl h))
      · exact .inr (.inr (.inr ⟨h.1, h.2.1⟩))
theorem place_eq (x : Int) (h0 : 0 ≤ x) (h : x ≤ 65535) : busbarref5_place.f x = some true := by
  unfold busbarref5_place.f
  rw [if_pos (by omega), decide_eq_true h]
theorem known_eq (f : Int) (h : f = 1 ∨ f = 2 ∨ f = 3 ∨ f = 4 ∨ f = 5 ∨ f = 6 ∨ f = 15 ∨ f = 16 ∨ f = 22 ∨ f = 23 ∨ f = 43) : busbarref1_Known.f f = some true := by
  rcases h with rfl | rfl | rfl | rfl | rfl | rfl | rfl | rfl | rfl | rfl | rfl <;> rfl
theorem right_eq (f : Int) (a1 a2 a3 a4 a5 : Int) (l6 : List Bool) (l7 : List Int) (a8 a9 a10 a11 : Int) (hf : f = 1 ∨ f = 2 ∨ f = 3 ∨ f = 4 ∨ f = 5 ∨ f = 6 ∨ f = 15 ∨ f = 16 ∨ f = 22 ∨ f = 23 ∨ f = 43) (ha : f ≤ 4 ∨ f = 15 ∨ f = 16 ∨ f = 23 ∨ ((f = 5 ∨ f = 6 ∨ f = 22) ∧ a2 = 0) ∨ (a1 = 0 ∧ a2 = 0 ∧ f ≠ 5 ∧ f ≠ 6 ∧ f ≠ 22)) {k : Nat} (hk : 20 ≤ k) (ht : tl4 f a3 a4 a5 l6 l7 a8 a9 a10 a11 = true) (h1 : 0 ≤ a1 ∧ a1 ≤ 65535) (h8 : 0 ≤ a8 ∧ a8 ≤ 65535)
    (hj : busbarref5_Right.j0 k false f a1 a2 a3 a4 a5 l6 l7 a8 a9 a10 a11 = some true) : busbarref5_Right.f k f (a1) a2 a3 a4 a5 l6 l7 a8 a9 a10 a11 = some true := by
  unfold busbarref5_Right.f
  rw [known_eq f hf, Option.bind_some, if_pos rfl, plain_eq f a1 a2 a3 a4 a5 l6 l7 a8 a9 a10 a11 (by omega) ha (by omega) ht, Option.bind_some, if_pos rfl, place_eq a1 h1.1 h1.2, Option.bind_some, if_pos rfl, place_eq a8 h8.1 h8.2, Option.bind_some]
  exact hj
end Go.Proofs.Ytakiojmjalbfpaa.LemAskBFlow
set_option linter.unusedVariables false
set_option linter.unusedSimpArgs false
namespace Go.Proofs.Ytakiojmjalbfpaa.LemAskCFlow
open Go.RowKit Go.Proofs.Ytakiojmjalbfpaa.PFlow Go.Proofs.YtakiojmjalbfpaaW.PrintWords Go.Proofs.YtakiojmjalbfpaaW.PrintLast Go.Proofs.YtakiojmjalbfpaaW.PrintMore Go.Proofs.Ytakiojmjalbfpaa.Num Go.Proofs.Ytakiojmjalbfpaa.LemWithinFlow Go.Proofs.Ytakiojmjalbfpaa.LemDigitFlow Go.Proofs.Ytakiojmjalbfpaa.LemHeadFlow Go.Proofs.Ytakiojmjalbfpaa.LemAskBFlow
abbrev Tup := Int × Int × Int × Int × Int × Int × List Bool × List Int × Int × Int × Int × Int
def AB (k : Nat) (r : Tup) : Option (List Int × Int) := busbarref5_AskBytes.f k r.1 r.2.1 r.2.2.1 r.2.2.2.1 r.2.2.2.2.1 r.2.2.2.2.2.1 r.2.2.2.2.2.2.1 r.2.2.2.2.2.2.2.1 r.2.2.2.2.2.2.2.2.1 r.2.2.2.2.2.2.2.2.2.1 r.2.2.2.2.2.2.2.2.2.2.1 r.2.2.2.2.2.2.2.2.2.2.2
def AGood (r : Tup) : Prop := ∃ p, (∀ k, 100 ≤ k → AB k r = some (p, 0)) ∧ 1 ≤ p.length ∧ p.length ≤ 253 ∧ B8 p
theorem b8_two (l : List Int) (w : Int) (hb : B8 l) (h0 : 0 ≤ w) (h1 : w < 65536) : B8 (l ++ [w / 256, w % 256]) := by
  intro x hx
  rcases List.mem_append.1 hx with h | h
  · exact hb x h
  · simp only [List.mem_cons, List.not_mem_nil, or_false] at h
    omega
theorem b8_one (l : List Int) (z : Int) (hb : B8 l) : B8 (l ++ [z % 256]) := by
  intro x hx
  rcases List.mem_append.1 hx with h | h
  · exact hb x h
  · simp only [List.mem_cons, List.not_mem_nil, or_false] at h
    omega
theorem b8_fn (z : Int) : B8 [z % 256] := by
  intro x hx
  simp only [List.mem_cons, List.not_mem_nil, or_false] at hx
  omega
theorem two_len (l : List Int) (a b : Int) : (l ++ [a, b]).length = l.length + 2 := by simp
theorem two_any (l : List Int) (w : Int) (h0 : 0 ≤ w) (h1 : w < 65536) (hl : l.length ≤ 1000) : busbarref5_two.f l w = some (l ++ [w / 256, w % 256]) := two_eq l w h0 h1 (by omega)
theorem ab_j0 (k : Nat) (f : Int) (a1 a2 a3 a4 a5 : Int) (l6 : List Bool) (l7 : List Int) (a8 a9 a10 a11 : Int) (hr : busbarref5_Right.f k f a1 a2 a3 a4 a5 l6 l7 a8 a9 a10 a11 = some true) (b : Bool) (hb : b = decide (f = 1 ∨ f = 2 ∨ f = 3 ∨ f = 4)) :
    AB k (f, a1, a2, a3, a4, a5, l6, l7, a8, a9, a10, a11) = busbarref5_AskBytes.j0 k [f % 256] f b f a1 a2 a3 a4 a5 l6 l7 a8 a9 a10 a11 := by
  unfold AB busbarref5_AskBytes.f
  dsimp only
  rw [hr, Option.bind_some, if_pos rfl, Option.bind_some]
  subst hb
  by_cases h1 : f = 1
  · rw [if_pos h1, show (f == 1) = true by simp [h1], decide_eq_true (.inl h1)]
  · rw [if_neg h1]
    by_cases h2 : f = 2
    · rw [if_pos h2, show (f == 2) = true by simp [h2], decide_eq_true (.inr (.inl h2))]
    · rw [if_neg h2]
      by_cases h3 : f = 3
      · rw [if_pos h3, show (f == 3) = true by simp [h3], decide_eq_true (.inr (.inr (.inl h3)))]
      · rw [if_neg h3]
        by_cases h4 : f = 4
        · rw [show (f == 4) = true by simp [h4], decide_eq_true (.inr (.inr (.inr h4)))]
        · rw [show (f == 4) = false from beq_eq_false_iff_ne.mpr h4, decide_eq_false (by omega)]
theorem rj (k : Nat) (f r w : Int) (a1 a2 a3 a4 a5 : Int) (l6 : List Bool) (l7 : List Int) (a8 a9 a10 a11 : Int) (hm : busbarref1_Most.f k f = some (r, w)) (b : Bool) (hb : b = decide (f = 1 ∨ f = 2 ∨ f = 3 ∨ f = 4)) :
    busbarref5_Right.j0 (k + 1) false f a1 a2 a3 a4 a5 l6 l7 a8 a9 a10 a11 = busbarref5_Right.j1 k r w f b f a1 a2 a3 a4 a5 l6 l7 a8 a9 a10 a11 := by
  rw [busbarref5_Right.j0, if_neg (by decide), hm, Option.bind_some]
  subst hb
  by_cases h1 : f = 1
  · rw [if_pos h1, show (f == 1) = true by simp [h1], decide_eq_true (.inl h1)]
  · rw [if_neg h1]
    by_cases h2 : f = 2
    · rw [if_pos h2, show (f == 2) = true by simp [h2], decide_eq_true (.inr (.inl h2))]
    · rw [if_neg h2]
      by_cases h3 : f = 3
      · rw [if_pos h3, show (f == 3) = true by simp [h3], decide_eq_true (.inr (.inr (.inl h3)))]
      · rw [if_neg h3]
        by_cases h4 : f = 4
        · rw [show (f == 4) = true by simp [h4], decide_eq_true (.inr (.inr (.inr h4)))]
        · rw [show (f == 4) = false from beq_eq_false_iff_ne.mpr h4, decide_eq_false (by omega)]
theorem good_read (f at_ n : Int) (hf : f = 1 ∨ f = 2 ∨ f = 3 ∨ f = 4) (h0 : 0 ≤ at_) (h1 : at_ < 65536) (n0 : 1 ≤ n) (n1 : n ≤ 6) : AGood (f, at_, n, 0, 0, 0, [], [], 0, 0, 0, 0) := by
  refine ⟨[f % 256] ++ [at_ / 256, at_ % 256] ++ [n / 256, n % 256], fun k hk => ?_, by simp, by simp, b8_two _ _ (b8_two _ _ (b8_fn f) h0 h1) (by omega) (by omega)⟩
  obtain ⟨k, rfl⟩ : ∃ m, k = m + 1 + 1 + 1 + 1 := ⟨k - 4, by omega⟩
  have hm : ∃ r, 125 ≤ r ∧ busbarref1_Most.f (k + 1 + 1 + 1) f = some (r, 0) := by
    rcases hf with rfl | rfl | rfl | rfl
    · exact ⟨2000, by omega, rfl⟩
    · exact ⟨2000, by omega, rfl⟩
    · exact ⟨125, by omega, rfl⟩
    · exact ⟨125, by omega, rfl⟩
  obtain ⟨r, hr, hm⟩ := hm
  have hR : busbarref5_Right.f (k + 1 + 1 + 1 + 1) f at_ n 0 0 0 [] [] 0 0 0 0 = some true := by
    refine right_eq f at_ n 0 0 0 [] [] 0 0 0 0 (by omega) (.inl (by omega)) (by omega) (by simp [tl4]) (by omega) (by omega) ?_
    rw [rj (k + 1 + 1 + 1) f r 0 _ _ _ _ _ _ _ _ _ _ _ hm true (decide_eq_true hf).symm, busbarref5_Right.j1, if_pos rfl, if_pos (by omega), decide_eq_true (by omega)]
  rw [ab_j0 _ f _ _ _ _ _ _ _ _ _ _ _ hR true (decide_eq_true hf).symm, busbarref5_AskBytes.j0, if_pos rfl, two_any _ at_ h0 h1 (by simp), Option.bind_some, two_any _ n (by omega) (by omega) (by simp), Option.bind_some]
theorem good5 (at_ v : Int) (h0 : 0 ≤ at_) (h1 : at_ < 65536) (v0 : 0 ≤ v) (v1 : v ≤ 1) : AGood (5, at_, 0, v, 0, 0, [], [], 0, 0, 0, 0) := by
  refine ⟨[5 % 256] ++ [at_ / 256, at_ % 256] ++ [v * 65280 / 256, v * 65280 % 256], fun k hk => ?_, by simp, by simp, b8_two _ _ (b8_two _ _ (b8_fn 5) h0 h1) (by omega) (by omega)⟩
  obtain ⟨k, rfl⟩ : ∃ m, k = m + 1 + 1 + 1 + 1 := ⟨k - 4, by omega⟩
  have hR : busbarref5_Right.f (k + 1 + 1 + 1 + 1) 5 at_ 0 v 0 0 [] [] 0 0 0 0 = some true := by
    refine right_eq 5 at_ 0 v 0 0 [] [] 0 0 0 0 (by omega) (by omega) (by omega) (by simp [tl4]) (by omega) (by omega) ?_
    rw [rj (k + 1 + 1 + 1) 5 0 1 _ _ _ _ _ _ _ _ _ _ _ rfl false rfl, busbarref5_Right.j1, if_neg (by decide), if_pos rfl, decide_eq_true v1]
  rw [ab_j0 _ 5 _ _ _ _ _ _ _ _ _ _ _ hR false rfl, busbarref5_AskBytes.j0, if_neg (by decide), if_pos rfl, two_any _ at_ h0 h1 (by simp), Option.bind_some, wrap64_id (x := v) (by omega) (by omega), wrap64_id (x := v * 65280) (by omega) (by omega), two_any _ (v * 65280) (by omega) (by omega) (by simp), Option.bind_some]
theorem good6 (at_ v : Int) (h0 : 0 ≤ at_) (h1 : at_ < 65536) (v0 : 0 ≤ v) (v1 : v < 65536) : AGood (6, at_, 0, v, 0, 0, [], [], 0, 0, 0, 0) := by
  refine ⟨[6 % 256] ++ [at_ / 256, at_ % 256] ++ [v / 256, v % 256], fun k hk => ?_, by simp, by simp, b8_two _ _ (b8_two _ _ (b8_fn 6) h0 h1) (by omega) (by omega)⟩
  obtain ⟨k, rfl⟩ : ∃ m, k = m + 1 + 1 + 1 + 1 := ⟨k - 4, by omega⟩
  have hR : busbarref5_Right.f (k + 1 + 1 + 1 + 1) 6 at_ 0 v 0 0 [] [] 0 0 0 0 = some true := by
    refine right_eq 6 at_ 0 v 0 0 [] [] 0 0 0 0 (by omega) (by omega) (by omega) (by simp [tl4]) (by omega) (by omega) ?_
    rw [rj (k + 1 + 1 + 1) 6 0 1 _ _ _ _ _ _ _ _ _ _ _ rfl false rfl, busbarref5_Right.j1, if_neg (by decide), if_neg (by decide), if_neg (by decide), if_neg (by decide), if_neg (by decide), if_neg (by decide)]
  rw [ab_j0 _ 6 _ _ _ _ _ _ _ _ _ _ _ hR false rfl, busbarref5_AskBytes.j0, if_neg (by decide), if_neg (by decide), if_pos rfl, two_any _ at_ h0 h1 (by simp), Option.bind_some, wrap64_id (x := v) (by omega) (by omega), two_any _ v (by omega) (by omega) (by simp), Option.bind_some]
theorem good22 (at_ v u : Int) (h0 : 0 ≤ at_) (h1 : at_ < 65536) (v0 : 0 ≤ v) (v1 : v < 65536) (u0 : 0 ≤ u) (u1 : u < 65536) : AGood (22, at_, 0, 0, v, u, [], [], 0, 0, 0, 0) := by
  refine ⟨[22 % 256] ++ [at_ / 256, at_ % 256] ++ [v / 256, v % 256] ++ [u / 256, u % 256], fun k hk => ?_, by simp, by simp, b8_two _ _ (b8_two _ _ (b8_two _ _ (b8_fn 22) h0 h1) v0 v1) u0 u1⟩
  obtain ⟨k, rfl⟩ : ∃ m, k = m + 1 + 1 + 1 + 1 := ⟨k - 4, by omega⟩
  have hR : busbarref5_Right.f (k + 1 + 1 + 1 + 1) 22 at_ 0 0 v u [] [] 0 0 0 0 = some true := by
    refine right_eq 22 at_ 0 0 v u [] [] 0 0 0 0 (by omega) (by omega) (by omega) (by simp [tl4]) (by omega) (by omega) ?_
    rw [rj (k + 1 + 1 + 1) 22 0 1 _ _ _ _ _ _ _ _ _ _ _ rfl false rfl, busbarref5_Right.j1, if_neg (by decide), if_neg (by decide), if_neg (by decide), if_neg (by decide), if_neg (by decide), if_neg (by decide)]
  rw [ab_j0 _ 22 _ _ _ _ _ _ _ _ _ _ _ hR false rfl, busbarref5_AskBytes.j0, if_neg (by decide), if_neg (by decide), if_neg (by decide), if_neg (by decide), if_neg (by decide), if_pos rfl, two_any _ at_ h0 h1 (by simp), Option.bind_some, wrap64_id (x := v) (by omega) (by omega), two_any _ v v0 v1 (by simp), Option.bind_some, wrap64_id (x := u) (by omega) (by omega), two_any _ u u0 u1 (by simp), Option.bind_some]
theorem good43 (c o : Int) (c0 : 1 ≤ c) (c1 : c ≤ 4) (o0 : 0 ≤ o) (o1 : o ≤ 255) : AGood (43, 0, 0, 0, 0, 0, [], [], 0, 0, c, o) := by
  refine ⟨[43 % 256] ++ [14, c % 256, o % 256], fun k hk => ?_, by simp, by simp, ?_⟩
  · obtain ⟨k, rfl⟩ : ∃ m, k = m + 1 + 1 + 1 + 1 := ⟨k - 4, by omega⟩
    have hR : busbarref5_Right.f (k + 1 + 1 + 1 + 1) 43 0 0 0 0 0 [] [] 0 0 c o = some true := by
      refine right_eq 43 0 0 0 0 0 [] [] 0 0 c o (by omega) (by omega) (by omega) (by simp [tl4]) (by omega) (by omega) ?_
      rw [rj (k + 1 + 1 + 1) 43 0 0 _ _ _ _ _ _ _ _ _ _ _ rfl false rfl, busbarref5_Right.j1, if_neg (by decide), if_neg (by decide), if_neg (by decide), if_neg (by decide), if_neg (by decide), if_pos rfl, if_pos (by omega), if_pos (by omega)]
      unfold busbarref5_byteful.f
      rw [if_pos (by omega), Option.bind_some, decide_eq_true o1]
    rw [ab_j0 _ 43 _ _ _ _ _ _ _ _ _ _ _ hR false rfl, busbarref5_AskBytes.j0, if_neg (by decide), if_neg (by decide), if_neg (by decide), if_neg (by decide), if_neg (by decide), if_neg (by decide), if_neg (by decide), Option.bind_some, if_pos (by simp)]
  · intro x hx
    simp only [List.cons_append, List.nil_append, List.mem_cons, List.not_mem_nil, or_false] at hx
    omega
theorem words_bytes (l : List Int) (hw : W16 l) (hl : l.length ≤ 60) : ∀ (d i : Nat) (b : List Int) (k : Nat), i + d = l.length → b.length + 2 * d ≤ 500 → B8 b → d < k → ∃ r, busbarref5_words.l0 k b l (i : Int) = some r ∧ r.length = b.length + 2 * d ∧ B8 r
  | 0, i, b, k, hi, hb, h8, hk => by
    obtain ⟨k, rfl⟩ : ∃ m, k = m + 1 := ⟨k - 1, by omega⟩
    rw [busbarref5_words.l0, if_neg (by omega)]
    exact ⟨b, rfl, by omega, h8⟩
  | d + 1, i, b, k, hi, hb, h8, hk => by
    obtain ⟨k, rfl⟩ : ∃ m, k = m + 1 := ⟨k - 1, by omega⟩
    have hx := hw l[i] (List.getElem_mem (by omega))
    rw [busbarref5_words.l0, if_pos (by omega), if_pos (by omega), rd_get l i (by omega), wrap64_id (x := l[i]) (by omega) (by omega), two_any b _ hx.1 hx.2 (by omega), Option.bind_some, wrap64_id (by omega) (by omega)]
    obtain ⟨r, h1, h2, h3⟩ := words_bytes l hw hl d (i + 1) (b ++ [l[i] / 256, l[i] % 256]) k (by omega) (by rw [two_len]; omega) (b8_two _ _ h8 hx.1 hx.2) (by omega)
    exact ⟨r, h1, by rw [h2, two_len]; omega, h3⟩
end Go.Proofs.Ytakiojmjalbfpaa.LemAskCFlow
set_option linter.unusedVariables false
set_option linter.unusedSimpArgs false
namespace Go.Proofs.Ytakiojmjalbfpaa.LemAskDFlow
open Go.RowKit Go.Proofs.Ytakiojmjalbfpaa.PFlow Go.Proofs.YtakiojmjalbfpaaW.PrintWords Go.Proofs.YtakiojmjalbfpaaW.PrintLast Go.Proofs.YtakiojmjalbfpaaW.PrintMore Go.Proofs.Ytakiojmjalbfpaa.Num Go.Proofs.Ytakiojmjalbfpaa.LemWithinFlow Go.Proofs.Ytakiojmjalbfpaa.LemDigitFlow Go.Proofs.Ytakiojmjalbfpaa.LemHeadFlow Go.Proofs.Ytakiojmjalbfpaa.LemAskBFlow Go.Proofs.Ytakiojmjalbfpaa.LemAskCFlow
theorem good_of (r : Tup) (p : List Int) (h : AB 100 r = some (p, 0)) (h1 : 1 ≤ p.length) (h2 : p.length ≤ 253) (h3 : B8 p) : AGood r :=
  ⟨p, fun k hk => at_rounds (busbarref5_AskBytes.mono r.1 r.2.1 r.2.2.1 r.2.2.2.1 r.2.2.2.2.1 r.2.2.2.2.2.1 r.2.2.2.2.2.2.1 r.2.2.2.2.2.2.2.1 r.2.2.2.2.2.2.2.2.1 r.2.2.2.2.2.2.2.2.2.1 r.2.2.2.2.2.2.2.2.2.2.1 r.2.2.2.2.2.2.2.2.2.2.2) hk h, h1, h2, h3⟩
theorem good16 (at_ n : Int) (l : List Int) (hl : (l.length : Int) = n) (hw : W16 l) (h0 : 0 ≤ at_) (h1 : at_ < 65536) (n0 : 1 ≤ n) (n1 : n ≤ 6) : AGood (16, at_, n, 0, 0, 0, [], l, 0, 0, 0, 0) := by
  have hR : busbarref5_Right.f 100 16 at_ n 0 0 0 [] l 0 0 0 0 = some true := by
    refine right_eq 16 at_ n 0 0 0 [] l 0 0 0 0 (by omega) (by omega) (by omega) (by simp [tl4]) (by omega) (by omega) ?_
    rw [rj 99 16 0 123 _ _ _ _ _ _ _ _ _ _ _ rfl false rfl, busbarref5_Right.j1, if_neg (by decide), if_neg (by decide), if_neg (by decide), if_pos rfl, if_pos (by omega), if_pos (by omega), show ((l.length : Int) == n) = true from beq_iff_eq.mpr hl]
  obtain ⟨r, e1, e2, e3⟩ := words_bytes l hw (by omega) l.length 0 ([16 % 256] ++ [at_ / 256, at_ % 256] ++ [n / 256, n % 256] ++ [2 * n % 256]) 99 (by omega) (by simp; omega) (b8_one _ _ (b8_two _ _ (b8_two _ _ (b8_fn 16) h0 h1) (by omega) (by omega))) (by omega)
  refine good_of _ r ?_ (by rw [e2]; simp; omega) (by rw [e2]; simp; omega) e3
  rw [ab_j0 _ 16 _ _ _ _ _ _ _ _ _ _ _ hR false rfl, busbarref5_AskBytes.j0, if_neg (by decide), if_neg (by decide), if_neg (by decide), if_neg (by decide), if_pos rfl, two_any _ at_ h0 h1 (by simp), Option.bind_some, two_any _ n (by omega) (by omega) (by simp), Option.bind_some, Option.bind_some, wrap64_id (x := 2 * n) (by omega) (by omega), if_pos (by simp)]
  unfold busbarref5_words.f
  rw [show (0 : Int) = ((0 : Nat) : Int) from rfl, e1, Option.bind_some]
theorem good23 (at_ n ra rn : Int) (l : List Int) (hl : (l.length : Int) = n) (hw : W16 l) (h0 : 0 ≤ at_) (h1 : at_ < 65536) (n0 : 1 ≤ n) (n1 : n ≤ 6) (r0 : 0 ≤ ra) (r1 : ra < 65536) (m0 : 1 ≤ rn) (m1 : rn ≤ 6) : AGood (23, at_, n, 0, 0, 0, [], l, ra, rn, 0, 0) := by
  have hR : busbarref5_Right.f 100 23 at_ n 0 0 0 [] l ra rn 0 0 = some true := by
    refine right_eq 23 at_ n 0 0 0 [] l ra rn 0 0 (by omega) (by omega) (by omega) (by simp [tl4]) (by omega) (by omega) ?_
    rw [rj 99 23 125 121 _ _ _ _ _ _ _ _ _ _ _ rfl false rfl, busbarref5_Right.j1, if_neg (by decide), if_neg (by decide), if_neg (by decide), if_neg (by decide), if_pos rfl, if_pos (by omega), if_pos (by omega), if_pos hl, if_pos (by omega), decide_eq_true (by omega)]
  obtain ⟨r, e1, e2, e3⟩ := words_bytes l hw (by omega) l.length 0 ([23 % 256] ++ [ra / 256, ra % 256] ++ [rn / 256, rn % 256] ++ [at_ / 256, at_ % 256] ++ [n / 256, n % 256] ++ [2 * n % 256]) 99 (by omega) (by simp; omega) (b8_one _ _ (b8_two _ _ (b8_two _ _ (b8_two _ _ (b8_two _ _ (b8_fn 23) r0 r1) (by omega) (by omega)) h0 h1) (by omega) (by omega))) (by omega)
  refine good_of _ r ?_ (by rw [e2]; simp; omega) (by rw [e2]; simp; omega) e3
  rw [ab_j0 _ 23 _ _ _ _ _ _ _ _ _ _ _ hR false rfl, busbarref5_AskBytes.j0, if_neg (by decide), if_neg (by decide), if_neg (by decide), if_neg (by decide), if_neg (by decide), if_neg (by decide), if_pos rfl, two_any _ ra r0 r1 (by simp), Option.bind_some, two_any _ rn (by omega) (by omega) (by simp), Option.bind_some, two_any _ at_ h0 h1 (by simp), Option.bind_some, two_any _ n (by omega) (by omega) (by simp), Option.bind_some, Option.bind_some, wrap64_id (x := 2 * n) (by omega) (by omega), if_pos (by simp)]
  unfold busbarref5_words.f
  rw [show (0 : Int) = ((0 : Nat) : Int) from rfl, e1, Option.bind_some]
theorem power_some (n : Int) : ∀ (d : Nat) (i p : Int) (k : Nat), 0 ≤ i → n - i ≤ d → d ≤ 100 → n ≤ 100 → d < k → ∃ r, busbarref1_power.l0 k n p i = some r
  | d, i, p, k, hi, h, hd, hn, hk => by
    obtain ⟨k, rfl⟩ : ∃ m, k = m + 1 := ⟨k - 1, by omega⟩
    rw [busbarref1_power.l0]
    by_cases hc : i < n
    · rw [if_pos hc, wrap64_id (x := i + 1) (by omega) (by omega)]
      match d, h, hd, hk with
      | 0, h, _, _ => omega
      | d + 1, h, hd, hk => exact power_some n d (i + 1) _ k (by omega) (by omega) (by omega) hn (by omega)
    · rw [if_neg hc]
      exact ⟨_, rfl⟩
theorem pack_loop (l : List Bool) (hl : l.length ≤ 100) : ∀ (d i : Nat) (x : List Int) (k : Nat), i + d = l.length → l.length ≤ 8 * x.length → B8 x → d + 20 ≤ k → ∃ r, busbarref1_Pack.l0 k l x (i : Int) = some r ∧ r.length = x.length ∧ B8 r
  | 0, i, x, k, hi, hx, h8, hk => by
    obtain ⟨k, rfl⟩ : ∃ m, k = m + 1 := ⟨k - 1, by omega⟩
    rw [busbarref1_Pack.l0, if_neg (by omega)]
    exact ⟨x, rfl, rfl, h8⟩
  | d + 1, i, x, k, hi, hx, h8, hk => by
    obtain ⟨k, rfl⟩ : ∃ m, k = m + 1 := ⟨k - 1, by omega⟩
    have t1 : Int.tdiv (i : Int) 8 = (i : Int) / 8 := tdiv_pos (by omega) (by omega)
    have t2 : Int.tmod (i : Int) 8 = (i : Int) % 8 := tmod_pos (by omega)
    rw [busbarref1_Pack.l0, if_pos (by omega), if_pos (by omega), t1, t2, wrap64_id (x := (i : Int) / 8) (by omega) (by omega), wrap64_id (x := (i : Int) + 1) (by omega) (by omega)]
    split
    · obtain ⟨t, ht⟩ := power_some ((i : Int) % 8) 8 0 1 k (by omega) (by omega) (by omega) (by omega) (by omega)
      have ht' : busbarref1_power.f k ((i : Int) % 8) = some t := ht
      rw [if_pos (by omega), if_pos (by omega), ht', Option.bind_some]
      obtain ⟨r, h1, h2, h3⟩ := pack_loop l hl d (i + 1) (x.set ((i : Int) / 8).toNat ((rd x ((i : Int) / 8) + t) % 256)) k (by omega) (by rw [List.length_set]; omega) (by
        intro z hz
        rcases List.mem_or_eq_of_mem_set hz with h | rfl
        · exact h8 z h
        · omega) (by omega)
      exact ⟨r, h1, by rw [h2, List.length_set], h3⟩
    · exact pack_loop l hl d (i + 1) x k (by omega) hx h8 (by omega)
theorem good15 (at_ n : Int) (l : List Bool) (hl : (l.length : Int) = n) (h0 : 0 ≤ at_) (h1 : at_ < 65536) (n0 : 1 ≤ n) (n1 : n ≤ 40) : AGood (15, at_, n, 0, 0, 0, l, [], 0, 0, 0, 0) := by
  have hR : busbarref5_Right.f 100 15 at_ n 0 0 0 l [] 0 0 0 0 = some true := by
    refine right_eq 15 at_ n 0 0 0 l [] 0 0 0 0 (by omega) (by omega) (by omega) (by simp [tl4]) (by omega) (by omega) ?_
    rw [rj 99 15 0 1968 _ _ _ _ _ _ _ _ _ _ _ rfl false rfl, busbarref5_Right.j1, if_neg (by decide), if_neg (by decide), if_pos rfl, if_pos (by omega), if_pos (by omega), show ((l.length : Int) == n) = true from beq_iff_eq.mpr hl]
  have hB : busbarref1_Bytes.f n = some ((n - 1) / 8 + 1) := by
    unfold busbarref1_Bytes.f
    rw [if_neg (by omega), wrap64_id (x := n - 1) (by omega) (by omega), tdiv_pos (by omega) (by omega), wrap64_id (x := (n - 1) / 8) (by omega) (by omega), wrap64_id (by omega) (by omega)]
  have hB' : busbarref1_Bytes.f (l.length : Int) = some ((n - 1) / 8 + 1) := by rw [hl]; exact hB
  obtain ⟨r, e1, e2, e3⟩ := pack_loop l (by omega) l.length 0 (List.replicate ((n - 1) / 8 + 1).toNat 0) 99 (by omega) (by rw [List.length_replicate]; omega) (by intro z hz; have := List.eq_of_mem_replicate hz; omega) (by omega)
  rw [List.length_replicate] at e2
  refine good_of _ ([15 % 256] ++ [at_ / 256, at_ % 256] ++ [n / 256, n % 256] ++ [((n - 1) / 8 + 1) % 256] ++ r) ?_ (by simp) (by simp; omega) ?_
  · rw [ab_j0 _ 15 _ _ _ _ _ _ _ _ _ _ _ hR false rfl, busbarref5_AskBytes.j0, if_neg (by decide), if_neg (by decide), if_neg (by decide), if_pos rfl, two_any _ at_ h0 h1 (by simp), Option.bind_some, two_any _ n (by omega) (by omega) (by simp), Option.bind_some, hB, Option.bind_some, Option.bind_some, if_pos (by simp), Option.bind_some]
    unfold busbarref1_Pack.f
    rw [hB', Option.bind_some, if_pos (by omega), if_pos (by omega), show (0 : Int) = ((0 : Nat) : Int) from rfl] 
    rw [show busbarref1_Pack.l0 99 l (List.replicate ((n - 1) / 8 + 1).toNat ((0 : Nat) : Int)) ((0 : Nat) : Int) = some r from e1, Option.bind_some, if_pos (by simp; omega)]
  · intro x hx
    rcases List.mem_append.1 hx with h | h
    · exact b8_one _ _ (b8_two _ _ (b8_two _ _ (b8_fn 15) h0 h1) (by omega) (by omega)) x h
    · exact e3 x h
theorem words_good (v n : Int) (hn : n ≤ 100) : ∀ (d : Nat) (i : Int) (l : List Int) (k : Nat), 0 ≤ i → i ≤ n → n - i = d → (l.length : Int) = i → W16 l → d ≤ 100 → d < k → ∃ r, busbarlaw0_words.l0 k v n l i = some r ∧ (r.length : Int) = n ∧ W16 r
  | d, i, l, k, hi, hin, h, hl, hw, hd, hk => by
    obtain ⟨k, rfl⟩ : ∃ m, k = m + 1 := ⟨k - 1, by omega⟩
    rw [busbarlaw0_words.l0]
    by_cases hc : i < n
    · rw [if_pos hc, within_eq v 60000 (by omega) (by omega), Option.bind_some, if_pos (by omega), wrap64_id (x := i + 1) (by omega) (by omega)]
      match d, h, hd, hk with
      | 0, h, _, _ => omega
      | d + 1, h, hd, hk =>
        refine words_good v n hn d (i + 1) _ k (by omega) (by omega) (by omega) (by rw [List.length_append, List.length_singleton]; omega) ?_ (by omega) (by omega)
        intro x hx
        rcases List.mem_append.1 hx with g | g
        · exact hw x g
        · simp only [List.mem_cons, List.not_mem_nil, or_false] at g
          rw [g, u16_eq]
          omega
    · rw [if_neg hc]
      exact ⟨l, rfl, by omega, hw⟩
theorem words_ok (v n : Int) (h0 : 0 ≤ n) (hn : n ≤ 40) {k : Nat} (hk : 42 ≤ k) : ∃ r, busbarlaw0_words.f k v n = some r ∧ (r.length : Int) = n ∧ W16 r := words_good v n (by omega) n.toNat 0 [] k (by omega) (by omega) (by omega) rfl (by intro x hx; cases hx) (by omega) (by omega)
theorem bits_ok (v n at_ : Int) (hn : n ≤ 40) (h0 : 0 ≤ at_) (h1 : at_ < 65536) (n0 : 1 ≤ n) : ∀ (d : Nat) (i : Int) (l : List Bool) (k : Nat), 0 ≤ i → i ≤ n → n - i = d → (l.length : Int) = i → d ≤ 100 → d < k → ∃ r, busbarlaw0_Ask.l0 k v n i 15 at_ n 0 0 0 l 0 0 0 0 = some r ∧ AGood r
  | d, i, l, k, hi, hin, h, hl, hd, hk => by
    obtain ⟨k, rfl⟩ : ∃ m, k = m + 1 := ⟨k - 1, by omega⟩
    rw [busbarlaw0_Ask.l0]
    by_cases hc : i < n
    · rw [if_pos hc, wrap64_id (x := 7 + i) (by omega) (by omega), within_eq v (7 + i) (by omega) (by omega), Option.bind_some, if_pos (by omega), wrap64_id (x := i + 1) (by omega) (by omega)]
      match d, h, hd, hk with
      | 0, h, _, _ => omega
      | d + 1, h, hd, hk => exact bits_ok v n at_ hn h0 h1 n0 d (i + 1) _ k (by omega) (by omega) (by omega) (by rw [List.length_append, List.length_singleton]; omega) (by omega) (by omega)
    · rw [if_neg hc]
      exact ⟨_, rfl, good15 at_ n l (by omega) h0 h1 n0 hn⟩
def Bd (x : Int) : Prop := -9223372036854775808 ≤ x ∧ x < 9223372036854775808
theorem mod0 (x m : Int) (hm : 0 < m) : 0 ≤ x % m ∧ x % m < m := ⟨Int.emod_nonneg x (by omega), Int.emod_lt_of_pos x hm⟩
theorem g_j5 (v n at_ y : Int) (hv : Bd v) (hn : 1 ≤ n ∧ n ≤ 6) (h0 : 0 ≤ at_) (h1 : at_ < 65536) (b : Bool) {k : Nat} (hk : 45 ≤ k) : ∃ r, busbarlaw0_Ask.j5 k v n y b 0 at_ 0 0 0 0 0 0 0 0 = some r ∧ AGood r := by
  obtain ⟨k, rfl⟩ : ∃ m, k = m + 1 := ⟨k - 1, by omega⟩
  obtain ⟨l, hl, hll, hlw⟩ := words_ok v n (by omega) (by omega) (k := k) (by omega)
  unfold Bd at hv
  rw [busbarlaw0_Ask.j5]
  split
  · rw [hl, Option.bind_some]; exact ⟨_, rfl, good16 at_ n l hll hlw h0 h1 hn.1 hn.2⟩
  · split
    · have m1 := mod0 v 65536 (by omega)
      have m2 := mod0 (Int.tdiv v 65536) 65536 (by omega)
      rw [within_eq v 65536 (by omega) (by omega), Option.bind_some, digit_eq v 65536 65536 hv (by omega) (by omega) (by omega), Option.bind_some, u16_id m1.1 m1.2, u16_id m2.1 m2.2]
      exact ⟨_, rfl, good22 at_ _ _ h0 h1 m1.1 m1.2 m2.1 m2.2⟩
    · split
      · have m1 := mod0 v 40 (by omega)
        have m2 := mod0 (Int.tdiv v 40) 6 (by omega)
        rw [hl, Option.bind_some, within_eq v 40 (by omega) (by omega), Option.bind_some, digit_eq v 40 6 hv (by omega) (by omega) (by omega), Option.bind_some, wrap64_id (x := 1 + Int.tdiv v 40 % 6) (by omega) (by omega)]
        exact ⟨_, rfl, good23 at_ n _ _ l hll hlw h0 h1 hn.1 hn.2 (by omega) (by omega) (by omega) (by omega)⟩
      · have m1 := mod0 v 4 (by omega)
        have m2 := mod0 (Int.tdiv v 4) 5 (by omega)
        rw [within_eq v 4 (by omega) (by omega), Option.bind_some, digit_eq v 4 5 hv (by omega) (by omega) (by omega), Option.bind_some, wrap64_id (x := 1 + v % 4) (by omega) (by omega)]
        exact ⟨_, rfl, good43 _ _ (by omega) (by omega) (by omega) (by omega)⟩
theorem g_j3 (v n at_ : Int) (hn : 1 ≤ n ∧ n ≤ 40) (h0 : 0 ≤ at_) (h1 : at_ < 65536) {k : Nat} (hk : 45 ≤ k) : ∃ r, busbarlaw0_Ask.j3 k v n 0 at_ 0 0 0 0 0 0 0 0 = some r ∧ AGood r := by
  obtain ⟨k, rfl⟩ : ∃ m, k = m + 1 := ⟨k - 1, by omega⟩
  rw [busbarlaw0_Ask.j3]
  exact bits_ok v n at_ hn.2 h0 h1 hn.1 n.toNat 0 [] k (by omega) (by omega) (by omega) rfl (by omega) (by omega)
theorem g_j2 (x v n at_ y : Int) (hx : Bd x) (hv : Bd v) (hn : 1 ≤ n ∧ n ≤ 6) (h0 : 0 ≤ at_) (h1 : at_ < 65536) (b : Bool) {k : Nat} (hk : 47 ≤ k) : ∃ r, busbarlaw0_Ask.j2 k x v n y b 0 at_ 0 0 0 0 0 0 0 0 = some r ∧ AGood r := by
  obtain ⟨k, rfl⟩ : ∃ m, k = m + 1 := ⟨k - 1, by omega⟩
  have hx' := hx
  have hv' := hv
  unfold Bd at hx' hv'
  rw [busbarlaw0_Ask.j2]
  split
  · have m1 := mod0 v 60000 (by omega)
    rw [within_eq v 60000 (by omega) (by omega), Option.bind_some, u16_id m1.1 (by omega)]
    exact ⟨_, rfl, good6 at_ _ h0 h1 m1.1 (by omega)⟩
  · split
    · rw [digit_eq v 64 3 hv' (by omega) (by omega) (by omega), Option.bind_some]
      split
      · have m2 := mod0 (Int.tdiv x 16) 20 (by omega)
        rw [digit_eq x 16 20 hx' (by omega) (by omega) (by omega), Option.bind_some, wrap64_id (x := 14 + n) (by omega) (by omega)]
        generalize Int.tdiv x 16 % 20 = at2 at m2 ⊢
        exact g_j3 v (14 + n) at2 (by omega) (by omega) (by omega) (by omega)
      · exact g_j3 v n at_ (by omega) h0 h1 (by omega)
    · split
      · exact g_j5 v n at_ _ hv hn h0 h1 _ (by omega)
      · exact g_j5 v n at_ _ hv hn h0 h1 _ (by omega)
theorem g_j1 (x v n at_ y : Int) (hx : Bd x) (hv : Bd v) (hn : 1 ≤ n ∧ n ≤ 6) (h0 : 0 ≤ at_) (h1 : at_ < 65536) (b : Bool) {k : Nat} (hk : 48 ≤ k) : ∃ r, busbarlaw0_Ask.j1 k x v n y b 0 at_ 0 0 0 0 0 0 0 0 = some r ∧ AGood r := by
  obtain ⟨k, rfl⟩ : ∃ m, k = m + 1 := ⟨k - 1, by omega⟩
  rw [busbarlaw0_Ask.j1]
  split
  · exact ⟨_, rfl, good_read 3 at_ n (by omega) h0 h1 hn.1 hn.2⟩
  · split
    · exact ⟨_, rfl, good_read 4 at_ n (by omega) h0 h1 hn.1 hn.2⟩
    · split
      · have m1 := mod0 v 2 (by omega)
        rw [within_eq v 2 (by omega) (by omega), Option.bind_some, u16_id m1.1 (by omega)]
        exact ⟨_, rfl, good5 at_ _ h0 h1 m1.1 (by omega)⟩
      · split
        · exact g_j2 x v n at_ _ hx hv hn h0 h1 _ (by omega)
        · split <;> exact g_j2 x v n at_ _ hx hv hn h0 h1 _ (by omega)
theorem g_j0 (x v n at_ : Int) (hx : Bd x) (hv : Bd v) (hn : 1 ≤ n ∧ n ≤ 6) (h0 : 0 ≤ at_) (h1 : at_ < 65536) {k : Nat} (hk : 49 ≤ k) : ∃ r, busbarlaw0_Ask.j0 k x v at_ n = some r ∧ AGood r := by
  obtain ⟨k, rfl⟩ : ∃ m, k = m + 1 := ⟨k - 1, by omega⟩
  rw [busbarlaw0_Ask.j0, within_eq x 16 (by omega) (by omega), Option.bind_some]
  split
  · exact ⟨_, rfl, good_read 1 at_ n (by omega) h0 h1 hn.1 hn.2⟩
  · split
    · exact ⟨_, rfl, good_read 2 at_ n (by omega) h0 h1 hn.1 hn.2⟩
    · split
      · exact g_j1 x v n at_ _ hx hv hn h0 h1 _ (by omega)
      · split <;> exact g_j1 x v n at_ _ hx hv hn h0 h1 _ (by omega)
theorem ask_good (x v : Int) (hx : Bd x) (hv : Bd v) : ∃ r, (∀ k, 100 ≤ k → busbarlaw0_Ask.f k x v = some r) ∧ AGood r := by
  have hx' := hx
  unfold Bd at hx'
  have m1 := mod0 (Int.tdiv x 640) 6 (by omega)
  have m2 := mod0 (Int.tdiv x 16) 40 (by omega)
  have m3 := mod0 (Int.tdiv x 46080) 65536 (by omega)
  have h : ∃ r, busbarlaw0_Ask.f 100 x v = some r ∧ AGood r := by
    unfold busbarlaw0_Ask.f
    rw [digit_eq x 16 40 hx' (by omega) (by omega) (by omega), Option.bind_some, digit_eq x 640 6 hx' (by omega) (by omega) (by omega), Option.bind_some, digit_eq x 3840 12 hx' (by omega) (by omega) (by omega), Option.bind_some, wrap64_id (x := 1 + Int.tdiv x 640 % 6) (by omega) (by omega)]
    generalize Int.tdiv x 640 % 6 = n at m1 ⊢
    generalize Int.tdiv x 16 % 40 = at1 at m2 ⊢
    split
    · rw [digit_eq x 46080 65536 hx' (by omega) (by omega) (by omega), Option.bind_some]
      generalize Int.tdiv x 46080 % 65536 = at2 at m3 ⊢
      exact g_j0 x v (1 + n) at2 hx hv (by omega) m3.1 m3.2 (by omega)
    · exact g_j0 x v (1 + n) at1 hx hv (by omega) m2.1 (by omega) (by omega)
  obtain ⟨r, h1, h2⟩ := h
  exact ⟨r, fun k hk => at_rounds (busbarlaw0_Ask.mono x v) hk h1, h2⟩
end Go.Proofs.Ytakiojmjalbfpaa.LemAskDFlow
namespace Go.Proofs.Ytakiojmjalbfpaa.LemPkFlow
open Go.RowKit Go.Proofs.Ytakiojmjalbfpaa.PFlow Go.Proofs.YtakiojmjalbfpaaW.PrintWords Go.Proofs.YtakiojmjalbfpaaW.PrintLast Go.Proofs.Ytakiojmjalbfpaa.Num Go.Proofs.Ytakiojmjalbfpaa.LemHeadFlow Go.Proofs.Ytakiojmjalbfpaa.LemAduFlow Go.Proofs.Ytakiojmjalbfpaa.LemWithinFlow Go.Proofs.Ytakiojmjalbfpaa.LemAskCFlow Go.Proofs.Ytakiojmjalbfpaa.LemAskDFlow
def pk (x v : Int) : List Int := match busbarlaw0_Ask.f 100 x v with
  | some r => (match AB 100 r with
    | some q => q.1
    | none => [])
  | none => []
theorem pk_spec (x v : Int) (hx : Bd x) (hv : Bd v) : ∃ r, (∀ k, 100 ≤ k → busbarlaw0_Ask.f k x v = some r) ∧ (∀ k, 100 ≤ k → AB k r = some (pk x v, 0)) ∧ 1 ≤ (pk x v).length ∧ (pk x v).length ≤ 253 ∧ B8 (pk x v) := by
  obtain ⟨r, h1, p, h2, h3, h4, h5⟩ := ask_good x v hx hv
  have e : pk x v = p := by
    unfold pk
    rw [h1 100 (by omega)]
    dsimp only
    rw [h2 100 (by omega)]
  rw [e]
  exact ⟨r, h1, h2, h3, h4, h5⟩
def fr (t u : Int) (p : List Int) : List Int := hb t ((p.length : Int) + 1) u ++ p
def cats (F : Nat → List Int) : Nat → Nat → List Int
  | 0, _ => []
  | d + 1, i => F i ++ cats F d (i + 1)
theorem fr_ok (t u x v : Int) (ht : 0 ≤ t ∧ t < 65536) (hu : 0 ≤ u ∧ u < 256) (hx : Bd x) (hv : Bd v) : Ok t (((pk x v).length : Int) + 1) u ∧ (fr t u (pk x v)).length = 7 + (pk x v).length ∧ 8 ≤ (fr t u (pk x v)).length ∧ (fr t u (pk x v)).length ≤ 260 ∧ B8 (fr t u (pk x v)) := by
  obtain ⟨r, h1, h2, h3, h4, h5⟩ := pk_spec x v hx hv
  have hok : Ok t (((pk x v).length : Int) + 1) u := by unfold Ok; omega
  have hl : (fr t u (pk x v)).length = 7 + (pk x v).length := by unfold fr; rw [List.length_append, hb_length]
  exact ⟨hok, hl, by omega, by omega, frame_b8 _ _ _ hok h5⟩
theorem cats_ok (F : Nat → List Int) (N : Nat) (hF : ∀ i, i < N → (F i).length ≤ 260 ∧ B8 (F i)) : ∀ (d i : Nat), i + d ≤ N → (cats F d i).length ≤ 260 * d ∧ B8 (cats F d i)
  | 0, i, _ => ⟨by simp [cats], by intro x hx; cases hx⟩
  | d + 1, i, h => by
    obtain ⟨f3, f4⟩ := hF i (by omega)
    obtain ⟨g1, g2⟩ := cats_ok F N hF d (i + 1) (by omega)
    refine ⟨by rw [cats, List.length_append]; omega, ?_⟩
    intro x hx
    rcases List.mem_append.1 hx with h | h
    · exact f4 x h
    · exact g2 x h
end Go.Proofs.Ytakiojmjalbfpaa.LemPkFlow
set_option linter.unusedVariables false
set_option linter.unusedSimpArgs false
namespace Go.Proofs.Ytakiojmjalbfpaa.Ring
open Go.RowKit Go.Proofs.YtakiojmjalbfpaaW.PrintWords Go.Proofs.YtakiojmjalbfpaaW.PrintLast Go.Proofs.YtakiojmjalbfpaaW.PrintMore Go.Proofs.Ytakiojmjalbfpaa.PFlow Go.Proofs.Ytakiojmjalbfpaa.Num Go.Proofs.Ytakiojmjalbfpaa.LemPkFlow Go.Proofs.Ytakiojmjalbfpaa.LemAskCFlow Go.Proofs.Ytakiojmjalbfpaa.LemAskDFlow
structure AskIn (w : World) (a : Value) (p : List Int) : Prop where
  ex : ∃ (r1 r2 r3 r4 r5 r6 : Int) (r7 : List Bool) (r8 : List Int) (r9 r10 r11 r12 : Int) (A7 : Option Addr) (c7 : Nat) (A8 : Option Addr) (c8 : Nat), a = .agg #[.int .i64 r1, .int .i64 r2, .int .i64 r3, .int .u16 r4, .int .u16 r5, .int .u16 r6, .slice A7 r7.length c7, .slice A8 r8.length c8, .int .i64 r9, .int .i64 r10, .int .i64 r11, .int .i64 r12] ∧ Kd.C Kd.bool w A7 r7.length r7 ∧ r7.length ≤ c7 ∧ Kd.C (Kd.int .u16) w A8 r8.length r8 ∧ r8.length ≤ c8 ∧ busbarref5_AskBytes.f 100 r1 r2 r3 r4 r5 r6 r7 r8 r9 r10 r11 r12 = some (p, 0)
theorem AskIn.below {w w1 : World} {a : Value} {p : List Int} (h : AskIn w a p) (hb : Below w.heap.size w w1) : AskIn w1 a p := by
  obtain ⟨r1, r2, r3, r4, r5, r6, r7, r8, r9, r10, r11, r12, A7, c7, A8, c8, ha, h1, h2, h3, h4, h5⟩ := h.ex
  exact ⟨r1, r2, r3, r4, r5, r6, r7, r8, r9, r10, r11, r12, A7, c7, A8, c8, ha, Kd.C_below h1 hb, h2, Kd.C_below h3 hb, h4, h5⟩
end Go.Proofs.Ytakiojmjalbfpaa.Ring
set_option linter.unusedVariables false
set_option linter.unusedSimpArgs false
namespace Go.Proofs.Ytakiojmjalbfpaa.Ring
open Go.RowKit Go.Proofs.YtakiojmjalbfpaaW.PrintWords Go.Proofs.YtakiojmjalbfpaaW.PrintLast Go.Proofs.YtakiojmjalbfpaaW.PrintMore
attribute [local go_sem] plus_setCell_drewN plus_cell_same
structure FlowW (w : World) (gf g B M : Nat) (q : List Int) (bad : Bool) : Prop where
  f : w.heap[gf]? = some (.cells #[.pointer (some ⟨g, 0, none⟩), .bool bad] 89 (0, 0))
  r : RingW w g B M q
theorem FlowW.below {w w1 : World} {gf g B M : Nat} {q : List Int} {bad : Bool} (h : FlowW w gf g B M q bad) (hb : Below w.heap.size w w1) : FlowW w1 gf g B M q bad := ⟨blk_below h.f hb, h.r.below hb⟩
theorem FlowW.ne {w : World} {gf g B M : Nat} {q : List Int} {bad : Bool} (h : FlowW w gf g B M q bad) : gf ≠ g ∧ gf ≠ B := by
  obtain ⟨f, bs, hg, hB, _⟩ := h.r.ex
  have hf := h.f
  constructor
  · rintro rfl
    rw [hf] at hg
    simp at hg
  · rintro rfl
    rw [hf] at hB
    simp at hB
theorem FlowW.fr {w w1 : World} {gf g B M : Nat} {q q1 : List Int} {bad : Bool} (h : FlowW w gf g B M q bad) (hr : RingW w1 g B M q1) (hf : Fr2 g B w w1) : FlowW w1 gf g B M q1 bad := ⟨(hf.block gf (blk_lt h.f) h.ne.1 h.ne.2).trans h.f, hr⟩
theorem flow_Held (w : World) (gf g B M : Nat) (q : List Int) (bad : Bool) (h : FlowW w gf g B M q bad) : Calls Try.prog 37 #[.pointer (some ⟨gf, 0, none⟩)] w fun e w' => e = .returned (.int .i64 (q.length : Int)) ∧ Below w.heap.size w w' := by
  obtain ⟨c0, c1⟩ := blkc2 h.f
  have hu89 := Try.underlying89
  have H := Lib.hid h
  clear h
  go_enter Try.func37, Try.ntmps37
  go_wp2_with (fail)
  refine (len_b _ g B M q H.out.r).mono ?_
  rintro e w1 ⟨rfl, hb⟩
  go_wp2
  go_ret
  exact ⟨rfl, hb⟩
theorem flow_Bad (w : World) (gf g B M : Nat) (q : List Int) (bad : Bool) (h : FlowW w gf g B M q bad) : Calls Try.prog 42 #[.pointer (some ⟨gf, 0, none⟩)] w fun e w' => e = .returned (.bool bad) ∧ Below w.heap.size w w' := by
  obtain ⟨c0, c1⟩ := blkc2 h.f
  have hu89 := Try.underlying89
  have H := Lib.hid h
  clear h
  go_enter Try.func42, Try.ntmps42
  go_wp2_with (fail)
  go_ret
  exact ⟨rfl, Below.refl _ _⟩
theorem flow_New (n : Int) (M : Nat) (hM : M = (min (max n 260) 65536).toNat) (w : World) :
    Calls Try.prog 33 #[.int .i64 n] w fun e w' => ∃ gf g B, e = .returned (.pointer (some ⟨gf, 0, none⟩)) ∧ FlowW w' gf g B M [] false ∧ w.heap.size ≤ gf ∧ w.heap.size ≤ g ∧ w.heap.size ≤ B ∧ Below w.heap.size w w' := by
  have hu89 := Try.underlying89
  obtain ⟨n1, hn1⟩ : ∃ n1 : Int, n1 = max n 260 := ⟨_, rfl⟩
  have N1 := Lib.hid hn1
  have N2 := Lib.hid (show (min (max n1 0) 65536).toNat = M by omega)
  clear hn1 hM
  go_enter Try.func33, Try.ntmps33
  go_wp2_with ((with_reducible refine gate_dst (N := 4) rfl ?_); refine wl_max rfl (.tmp 3) (.const (.int .i64 260)) _ rfl .i64 n 260 n1 rfl rfl N1.out ?_)
  refine (ring_New n1 _).mono ?_
  rintro e w1 ⟨g, B, rfl, hr, hg, hB, hb⟩
  rw [N2.out] at hr
  have A1 := Lib.hid hr
  have A2 := Lib.hid hb
  have A3 := Lib.hid (And.intro hg hB)
  clear hr hb hg hB
  go_wp2_with (fail)
  go_ret
  exact ⟨_, g, B, rfl, ⟨blk_new _ _, A1.out.below ((Below.refl _ _).alloc (Nat.le_refl _) _)⟩, A2.out.size, A3.out.1, A3.out.2, A2.out.alloc A2.out.size _⟩
theorem flow_Feed (w : World) (gf g B M : Nat) (q : List Int) (bad : Bool) (h : FlowW w gf g B M q bad) (A0 : Option Addr) (n c0 : Nat) (l : List Int) (hn : n = l.length) (hr : Kd.C (Kd.int .u8) w A0 n l) (hc0 : n ≤ c0) (hne : 0 < n → ∀ a, A0 = some a → a.block ≠ B) (m : Nat) (hm : m = if bad then 0 else min n (M - q.length)) :
    Calls Try.prog 35 #[.pointer (some ⟨gf, 0, none⟩), .slice A0 n c0] w fun e w' => e = .returned (.int .i64 (m : Int)) ∧ FlowW w' gf g B M (q ++ l.take m) bad ∧ Fr2 g B w w' := by
  obtain ⟨c0_, c1⟩ := blkc2 h.f
  have hu89 := Try.underlying89
  have H := Lib.hid h
  have H1 := Lib.hid hr
  have H2 := Lib.hid hne
  have H3 := Lib.hid hm
  have H4 := Lib.hid hn
  clear h hr hne hm hn
  cases bad with
  | true =>
    go_enter Try.func35, Try.ntmps35
    go_wp2_with (fail)
    go_ret
    have hm := H3.out
    simp only [if_true] at hm
    subst hm
    exact ⟨rfl, by rw [List.take_zero, List.append_nil]; exact H.out, Fr2.of_below (Below.refl _ _)⟩
  | false =>
    go_enter Try.func35, Try.ntmps35
    go_wp2_with (fail)
    refine (ring_Put_n w g B M q H.out.r A0 n c0 l H4.out H1.out hc0 H2.out m (by have := H3.out; simpa using this)).mono ?_
    rintro e w1 ⟨rfl, hr, hf⟩
    go_wp2
    go_ret
    exact ⟨rfl, H.out.fr hr hf, hf⟩
theorem res3 {w : World} {g t : Nat} {x y z a b c : Value} (h : w.heap[g]? = some (.cells #[x, y, z] t (0, 0))) : (((w.setCell ⟨g, 0, none⟩ a).setCell ⟨g, 1, none⟩ b).setCell ⟨g, 2, none⟩ c).heap[g]? = some (.cells #[a, b, c] t (0, 0)) := blk_put (blk_put (blk_put h 0 a rfl) 1 b rfl) 2 c rfl
def firstOf (C : List Int → Int × Int × List Int × Int × Int) (q : List Int) (bad : Bool) : Int × Int × List Int × Int × Int := if bad then (0, 0, [], 0, 2) else C (q.take 260)
theorem flow_first (C : List Int → Int × Int × List Int × Int × Int) (w : World) (gf g B M : Nat) (q : List Int) (bad : Bool) (h : FlowW w gf g B M q bad)
    (hC : ∀ (W : World) (A : Option Addr) (n c : Nat), n = (q.take 260).length → Kd.C (Kd.int .u8) W A n (q.take 260) → n ≤ c → Calls Try.prog 31 #[.slice A n c] W fun e w' => ∃ v : Value, e = .returned (.tuple #[.agg #[.int .i64 (C (q.take 260)).1, .int .i64 (C (q.take 260)).2.1, v], .int .i64 (C (q.take 260)).2.2.2.1, .int .i64 (C (q.take 260)).2.2.2.2]) ∧ Kd.R (Kd.int .u8) 5 w' W.heap.size (fun _ => True) v (C (q.take 260)).2.2.1 ∧ Below W.heap.size W w')
    (t u : Int) (p : List Int) (n e0 : Int) (hf : firstOf C q bad = (t, u, p, n, e0)) :
    Calls Try.prog 55 #[.pointer (some ⟨gf, 0, none⟩)] w fun e w' => ∃ A c, e = .returned (.tuple #[.agg #[.int .i64 t, .int .i64 u, .slice A p.length c], .int .i64 n, .int .i64 e0]) ∧ Kd.R (Kd.int .u8) 5 w' w.heap.size (fun _ => True) (.slice A p.length c) p ∧ Below w.heap.size w w' := by
  obtain ⟨c0_, c1⟩ := blkc2 h.f
  have hgl := blk_lt h.f
  have hu89 := Try.underlying89
  have hu53 := Try.underlying53
  have hmf : ∀ (fn : Fn) (first cap : Array Value) (w : World), (Instr.makeFunc fn first cap).run Try.prog w = .ok (.func fn first cap) w := fun _ _ _ _ => rfl
  have H := Lib.hid h
  have H1 := Lib.hid hC
  clear h hC
  have d0 : (w.alloc (.cells #[.int .i64 0, .int .i64 0, .slice none 0 0] 53)).cell? ⟨gf, 0, none⟩ = some (.pointer (some ⟨g, 0, none⟩)) := (World.cell?_alloc_lt _ _ _ hgl).trans c0_
  have d1 : (w.alloc (.cells #[.int .i64 0, .int .i64 0, .slice none 0 0] 53)).cell? ⟨gf, 1, none⟩ = some (.bool bad) := (World.cell?_alloc_lt _ _ _ hgl).trans c1
  cases bad with
  | true =>
    have HF := Lib.hid hf
    clear hf
    go_enter Try.func55, Try.ntmps55
    go_wp2_with (fail)
    have hW := blk_new w (.cells #[.int .i64 0, .int .i64 0, .slice none 0 0] 53 (0, 0))
    have hWB := (Below.refl w.heap.size w).alloc (Nat.le_refl _) (.cells #[.int .i64 0, .int .i64 0, .slice none 0 0] 53)
    have hr0 := (blk_cell hW 0).trans rfl
    have hr1 := (blk_cell hW 1).trans rfl
    have hr2 := (blk_cell hW 2).trans rfl
    have hf := HF.out
    simp only [firstOf, if_true, Prod.mk.injEq] at hf
    obtain ⟨rfl, rfl, rfl, rfl, rfl⟩ := hf
    exact bodyPost_ret (v := .tuple #[.agg #[.int .i64 0, .int .i64 0, .slice none 0 0], .int .i64 0, .int .i64 2]) (by simp [results, Try.results55, go_sem, hr0, hr1, hr2]) rfl ⟨none, 0, rfl, Kd.R_nil _ _ _ _ _, hWB⟩
  | false =>
    have HF := Lib.hid hf
    obtain ⟨k, hk⟩ : ∃ k, k = (q.take (260 : Int).toNat).length := ⟨_, rfl⟩
    have HK := Lib.hid hk
    clear hf hk
    go_enter Try.func55, Try.ntmps55
    go_wp2_with (fail)
    refine (ring_Look2 _ g B M q (H.out.r.below ((Below.refl _ _).alloc (Nat.le_refl _) _)) 260 k HK.out).mono ?_
    rintro e w1 ⟨A1, c1', rfl, hR, hb⟩
    rw [show (260 : Int).toNat = 260 by omega] at hR
    have B1 := Lib.hid (blk_below (blk_new w (.cells #[.int .i64 0, .int .i64 0, .slice none 0 0] 53 (0, 0))) hb)
    have B2 := Lib.hid (((Below.refl w.heap.size w).alloc (Nat.le_refl _) _).trans (hb.mono (show w.heap.size ≤ _ by simp)))
    have B3 := Lib.hid hR
    have B4 := Lib.hid hb.size
    clear hb hR d0 d1
    go_wp2_with (fail)
    have hK := HK.out
    rw [show (260 : Int).toNat = 260 by omega] at hK
    refine (H1.out _ A1 k c1' hK (by have := (Kd.R_reads' B3.out).2.2; rwa [← (Kd.R_reads' B3.out).1] at this) (Kd.R_reads' B3.out).2.1).mono ?_
    have hf := HF.out
    simp only [firstOf, Bool.false_eq_true, if_false] at hf
    rw [hf]
    rintro e w2 ⟨v, rfl, hR, hb⟩
    obtain ⟨A2, c2, rfl⟩ := Kd.R_slice hR
    have D1 := Lib.hid (blk_below B1.out hb)
    have D2 := Lib.hid (below_then B2.out B2.out.size hb)
    have D3 := Lib.hid hR
    obtain ⟨e0_, e1_, e2_⟩ := blkc3 D1.out
    obtain ⟨f0_, f1_, f2_⟩ := blkf3 D1.out
    clear B1 B2 B3 hR hb hf hK
    go_wp2_with (fail)
    have hW := res3 (a := .int .i64 t) (b := .int .i64 u) (c := .slice A2 p.length c2) D1.out
    have hr0 := (blk_cell hW 0).trans rfl
    have hr1 := (blk_cell hW 1).trans rfl
    have hr2 := (blk_cell hW 2).trans rfl
    have hWB : Below w.heap.size w (((w2.setCell ⟨w.heap.size, 0, none⟩ (.int .i64 t)).setCell ⟨w.heap.size, 1, none⟩ (.int .i64 u)).setCell ⟨w.heap.size, 2, none⟩ (.slice A2 p.length c2)) := below_set (below_set (below_set D2.out (Nat.le_refl _)) (Nat.le_refl _)) (Nat.le_refl _)
    have hwl : w.heap.size < w1.heap.size := by have := B4.out; simp at this; omega
    have hR2 := Kd.R_far (Kd.R_far (Kd.R_far (Kd.R_bound D3.out) (p := ⟨w.heap.size, 0, none⟩) (fun k_ h_ => by have := h_.2.1; show k_ ≠ w.heap.size; omega) (.int .i64 t)) (p := ⟨w.heap.size, 1, none⟩) (fun k_ h_ => by have := h_.2.1; show k_ ≠ w.heap.size; omega) (.int .i64 u)) (p := ⟨w.heap.size, 2, none⟩) (fun k_ h_ => by have := h_.2.1; show k_ ≠ w.heap.size; omega) (.slice A2 p.length c2)
    exact bodyPost_ret (v := .tuple #[.agg #[.int .i64 t, .int .i64 u, .slice A2 p.length c2], .int .i64 n, .int .i64 e0]) (by simp [results, Try.results55, go_sem, hr0, hr1, hr2]) rfl ⟨A2, c2, rfl, Kd.R_mono (Kd.R_lower hR2 (by omega)) (fun _ _ => trivial), hWB⟩
structure Fr3 (a b c : Nat) (w w' : World) : Prop where
  os : w'.os = w.os
  tape : w'.tape = w.tape
  output : w'.output = w.output
  size : w.heap.size ≤ w'.heap.size
  block : ∀ i, i < w.heap.size → i ≠ a → i ≠ b → i ≠ c → w'.heap[i]? = w.heap[i]?
theorem Fr3.trans {a b c : Nat} {w w1 w2 : World} (h : Fr3 a b c w w1) (k : Fr3 a b c w1 w2) : Fr3 a b c w w2 := ⟨k.os.trans h.os, k.tape.trans h.tape, k.output.trans h.output, Nat.le_trans h.size k.size, fun i hi h1 h2 h3 => (k.block i (Nat.lt_of_lt_of_le hi h.size) h1 h2 h3).trans (h.block i hi h1 h2 h3)⟩
theorem Fr3.of_below {a b c : Nat} {w w1 : World} (h : Below w.heap.size w w1) : Fr3 a b c w w1 := ⟨h.os, h.tape, h.output, h.size, fun i hi _ _ _ => h.block i hi⟩
theorem Fr3.of_fr2 {a b c : Nat} {w w1 : World} (h : Fr2 b c w w1) : Fr3 a b c w w1 := ⟨h.os, h.tape, h.output, h.size, fun i hi _ h2 h3 => h.block i hi h2 h3⟩
theorem Fr3.set {a b c : Nat} (w : World) (i : Nat) (v : Value) : Fr3 a b c w (w.setCell ⟨a, i, none⟩ v) := ⟨rfl, rfl, rfl, by simp [World.setCell], fun j hj h1 h2 h3 => Below.heap_setCell w _ v j h1⟩
theorem Fr3.below {a b c n : Nat} {w0 w w1 : World} (h : Fr3 a b c w w1) (hb : Below n w0 w) (hs : n ≤ w.heap.size) (ha : n ≤ a) (hb' : n ≤ b) (hc : n ≤ c) : Below n w0 w1 := hb.trans ⟨h.os, h.tape, h.output, h.size, fun i hi => h.block i (by omega) (by omega) (by omega) (by omega)⟩
theorem Fr3.new {a b c x : Nat} {w w1 : World} (h : Fr3 a b c w w1) (hx : w.heap.size ≤ x) (i : Nat) (v : Value) : Fr3 a b c w (w1.setCell ⟨x, i, none⟩ v) := ⟨h.os, h.tape, h.output, by have := h.size; simpa [World.setCell] using this, fun j hj h1 h2 h3 => (Below.heap_setCell w1 ⟨x, i, none⟩ v j (by show j ≠ x; omega)).trans (h.block j hj h1 h2 h3)⟩
theorem FlowW.far {w : World} {gf g B M x i : Nat} {v : Value} {q : List Int} {bad : Bool} (h : FlowW w gf g B M q bad) (h1 : gf ≠ x) (h2 : g ≠ x) (h3 : B ≠ x) : FlowW (w.setCell ⟨x, i, none⟩ v) gf g B M q bad := ⟨(Below.heap_setCell w ⟨x, i, none⟩ v gf h1).trans h.f, h.r.keep (Below.heap_setCell w ⟨x, i, none⟩ v g h2) (Below.heap_setCell w ⟨x, i, none⟩ v B h3)⟩
def nextOf (C : List Int → Int × Int × List Int × Int × Int) (q : List Int) (bad : Bool) : List Int × Bool := if (firstOf C q bad).2.2.2.2 = 2 then ([], true) else (q.drop (firstOf C q bad).2.2.2.1.toNat, bad)
def CutIs (C : List Int → Int × Int × List Int × Int × Int) (q : List Int) : Prop := ∀ (W : World) (A : Option Addr) (n c : Nat), n = (q.take 260).length → Kd.C (Kd.int .u8) W A n (q.take 260) → n ≤ c → Calls Try.prog 31 #[.slice A n c] W fun e w' => ∃ v : Value, e = .returned (.tuple #[.agg #[.int .i64 (C (q.take 260)).1, .int .i64 (C (q.take 260)).2.1, v], .int .i64 (C (q.take 260)).2.2.2.1, .int .i64 (C (q.take 260)).2.2.2.2]) ∧ Kd.R (Kd.int .u8) 5 w' W.heap.size (fun _ => True) v (C (q.take 260)).2.2.1 ∧ Below W.heap.size W w'
theorem flow_Ready (C : List Int → Int × Int × List Int × Int × Int) (w : World) (gf g B M : Nat) (q : List Int) (bad : Bool) (h : FlowW w gf g B M q bad) (hC : CutIs C q) :
    Calls Try.prog 43 #[.pointer (some ⟨gf, 0, none⟩)] w fun e w' => e = .returned (.bool (!((firstOf C q bad).2.2.2.2 == 3))) ∧ Below w.heap.size w w' := by
  have hu53 := Try.underlying53
  obtain ⟨t, u, p, n, e0, hf⟩ : ∃ t u p n e0, firstOf C q bad = (t, u, p, n, e0) := ⟨_, _, _, _, _, rfl⟩
  rw [hf]
  have HF := Lib.hid hf
  clear hf
  go_enter Try.func43, Try.ntmps43
  go_wp2_with (fail)
  refine (flow_first C w gf g B M q bad h hC t u p n e0 HF.out).mono ?_
  rintro e w1 ⟨A, c, rfl, hR, hb⟩
  go_wp2_with (fail)
  go_ret
  exact ⟨rfl, hb.alloc hb.size _⟩
theorem flow_Next (C : List Int → Int × Int × List Int × Int × Int) (w : World) (gf g B M : Nat) (q : List Int) (bad : Bool) (h : FlowW w gf g B M q bad) (hC : CutIs C q) (t u : Int) (p : List Int) (n e0 : Int) (hf : firstOf C q bad = (t, u, p, n, e0)) :
    Calls Try.prog 36 #[.pointer (some ⟨gf, 0, none⟩)] w fun e w' => ∃ A c, e = .returned (.tuple #[.agg #[.int .i64 t, .int .i64 u, .slice A p.length c], .int .i64 e0]) ∧ Kd.R (Kd.int .u8) 5 w' w.heap.size (fun _ => True) (.slice A p.length c) p ∧ FlowW w' gf g B M (nextOf C q bad).1 (nextOf C q bad).2 ∧ Fr3 gf g B w w' := by
  have hu89 := Try.underlying89
  have hu53 := Try.underlying53
  have hmf : ∀ (fn : Fn) (first cap : Array Value) (w : World), (Instr.makeFunc fn first cap).run Try.prog w = .ok (.func fn first cap) w := fun _ _ _ _ => rfl
  have H := Lib.hid h
  have H1 := Lib.hid hC
  have HF := Lib.hid hf
  clear h hC hf
  by_cases he : e0 = 2
  · subst he
    go_enter Try.func36, Try.ntmps36
    go_wp2_with (fail)
    refine (flow_first C _ gf g B M q bad (H.out.below ((Below.refl _ _).alloc (Nat.le_refl _) _)) H1.out t u p n 2 HF.out).mono ?_
    rintro e w1 ⟨A, c, rfl, hR, hb⟩
    have B0 := Lib.hid (blk_below (blk_new w (.cells #[.int .i64 0, .int .i64 0, .slice none 0 0] 53 (0, 0))) hb)
    have B1 := Lib.hid ((H.out.below ((Below.refl _ _).alloc (Nat.le_refl _) _)).below hb)
    have B2 := Lib.hid (((Below.refl w.heap.size w).alloc (Nat.le_refl _) _).trans (hb.mono (show w.heap.size ≤ _ by simp)))
    have B3 := Lib.hid hR
    have hwl : w.heap.size < w1.heap.size := by have := hb.size; simp at this; omega
    have HWL := Lib.hid hwl
    clear hR hb hwl
    have B4 := Lib.hid (blk_alloc B0.out (.cells #[.int .i64 t, .int .i64 u, .slice A p.length c] 53))
    have B5 := Lib.hid (B1.out.below ((Below.refl _ _).alloc (Nat.le_refl _) (.cells #[.int .i64 t, .int .i64 u, .slice A p.length c] 53)))
    have B6 := Lib.hid (blk_new w1 (.cells #[.int .i64 t, .int .i64 u, .slice A p.length c] 53 (0, 0)))
    have B7 := Lib.hid (Kd.R_alloc B3.out (.cells #[.int .i64 t, .int .i64 u, .slice A p.length c] 53))
    obtain ⟨c0_, c1⟩ := blkc2 B5.out.f
    obtain ⟨f0_, f1⟩ := blkf2 B5.out.f
    have WS := Lib.hid (show w.heap.size < (w.alloc (.cells #[.int .i64 0, .int .i64 0, .slice none 0 0] 53)).heap.size by simp)
    have WS2 := Lib.hid (show w.heap.size ≤ (w.alloc (.cells #[.int .i64 0, .int .i64 0, .slice none 0 0] 53)).heap.size by simp)
    have NX := Lib.hid (show nextOf C q bad = ([], true) by unfold nextOf; rw [HF.out]; rfl)
    go_wp2_with (fail)
    refine (len_b _ g B M q B5.out.r).mono ?_
    rintro e w3 ⟨rfl, hb⟩
    have C0 := Lib.hid (blk_below B4.out hb)
    have C1 := Lib.hid (B5.out.below hb)
    have C2 := Lib.hid (blk_below B6.out hb)
    have C3 := Lib.hid (Kd.R_below B7.out hb)
    have C4 := Lib.hid (below_then (B2.out.alloc B2.out.size (.cells #[.int .i64 t, .int .i64 u, .slice A p.length c] 53)) (by have := HWL.out; simp; omega) hb)
    clear B4 B5 B6 B7 hb c0_ c1 f0_ f1
    obtain ⟨c0_, c1⟩ := blkc2 C1.out.f
    obtain ⟨f0_, f1⟩ := blkf2 C1.out.f
    have hlt := H.out.r.lt
    have hfl := blk_lt H.out.f
    have hne := H.out.ne
    have D0 := blk_far C0.out (show w.heap.size ≠ (⟨gf, 1, none⟩ : Addr).block by show w.heap.size ≠ gf; omega) (.bool true)
    have D1 := blk_put C1.out.f 1 (.bool true) rfl
    have D2 := blk_far C2.out (show w1.heap.size ≠ (⟨gf, 1, none⟩ : Addr).block by show w1.heap.size ≠ gf; have := HWL.out; omega) (.bool true)
    have D3 := Kd.R_far (Kd.R_bound C3.out) (p := ⟨gf, 1, none⟩) (fun k_ h_ => by have := h_.2.1; have := WS.out; show k_ ≠ gf; omega) (.bool true)
    have D4 : RingW (w3.setCell ⟨gf, 1, none⟩ (.bool true)) g B M q := C1.out.r.keep (Below.heap_setCell w3 ⟨gf, 1, none⟩ _ g (fun e => hne.1 e.symm)) (Below.heap_setCell w3 ⟨gf, 1, none⟩ _ B (fun e => hne.2 e.symm))
    have E0 := Lib.hid D0
    have E1 := Lib.hid D1
    have E2 := Lib.hid D2
    have E3 := Lib.hid D3
    have E4 := Lib.hid D4
    clear D0 D1 D2 D3 D4
    go_wp2_with (fail)
    refine (ring_Take _ g B M q E4.out (q.length : Int) q.length (by rw [Int.toNat_natCast, List.take_length])).mono ?_
    rintro e w4 ⟨At, ct, rfl, _, hr2, hf2⟩
    rw [Int.toNat_natCast, List.drop_length] at hr2
    have K1 := Lib.hid ((hf2.block w.heap.size (blk_lt E0.out) (by omega) (by omega)).trans E0.out)
    have K2 := Lib.hid ((hf2.block w1.heap.size (blk_lt E2.out) (by have := HWL.out; omega) (by have := HWL.out; omega)).trans E2.out)
    have K3 := Lib.hid ((show FlowW w4 gf g B M [] true from ⟨(hf2.block gf (blk_lt E1.out) hne.1 hne.2).trans E1.out, hr2⟩))
    have K4 := Lib.hid (Kd.R_step (Kd.R_bound E3.out) (fun k hk hl => hf2.block k hl (by have := hk.2.1; have := HWL.out; have := WS.out; omega) (by have := hk.2.1; have := HWL.out; have := WS.out; omega)))
    have K5 := Lib.hid ((show Fr3 gf g B w w4 from ((Fr3.of_below C4.out).trans (Fr3.set w3 1 (.bool true))).trans (Fr3.of_fr2 hf2)))
    obtain ⟨x0, x1, x2⟩ := blkc3 K1.out
    obtain ⟨y0, y1, y2⟩ := blkf3 K1.out
    obtain ⟨z0, z1, z2⟩ := blkc3 K2.out
    clear hr2 hf2
    go_wp2_with (fail)
    have hW := res3 (a := .int .i64 t) (b := .int .i64 u) (c := .slice A p.length c) K1.out
    have hr0 := (blk_cell hW 0).trans rfl
    have hr1 := (blk_cell hW 1).trans rfl
    have hr2 := (blk_cell hW 2).trans rfl
    have hR2 := Kd.R_far (Kd.R_far (Kd.R_far (Kd.R_mono K4.out (fun k_ h_ => And.intro h_.1 (show k_ ≠ w.heap.size by have := h_.2.1; have := WS.out; omega))) (p := ⟨w.heap.size, 0, none⟩) (fun k_ h_ => h_.2) (.int .i64 t)) (p := ⟨w.heap.size, 1, none⟩) (fun k_ h_ => h_.2) (.int .i64 u)) (p := ⟨w.heap.size, 2, none⟩) (fun k_ h_ => h_.2) (.slice A p.length c)
    have hfin : Fr3 gf g B w (((w4.setCell ⟨w.heap.size, 0, none⟩ (.int .i64 t)).setCell ⟨w.heap.size, 1, none⟩ (.int .i64 u)).setCell ⟨w.heap.size, 2, none⟩ (.slice A p.length c)) := ((K5.out.new (Nat.le_refl _) 0 (.int .i64 t)).new (Nat.le_refl _) 1 (.int .i64 u)).new (Nat.le_refl _) 2 (.slice A p.length c)
    have hfl2 := ((K3.out.far (i := 0) (v := .int .i64 t) (x := w.heap.size) (by omega) (by omega) (by omega)).far (i := 1) (v := .int .i64 u) (x := w.heap.size) (by omega) (by omega) (by omega)).far (i := 2) (v := .slice A p.length c) (x := w.heap.size) (by omega) (by omega) (by omega)
    exact bodyPost_ret (v := .tuple #[.agg #[.int .i64 t, .int .i64 u, .slice A p.length c], .int .i64 2]) (by simp [results, Try.results36, go_sem, hr0, hr1, hr2]) rfl ⟨A, c, rfl, Kd.R_mono (Kd.R_lower hR2 WS2.out) (fun _ _ => trivial), by rw [NX.out]; exact hfl2, hfin⟩
  · have hd : (e0 == 2) = false := beq_eq_false_iff_ne.2 he
    go_enter Try.func36, Try.ntmps36
    go_wp2_with (fail)
    refine (flow_first C _ gf g B M q bad (H.out.below ((Below.refl _ _).alloc (Nat.le_refl _) _)) H1.out t u p n e0 HF.out).mono ?_
    rintro e w1 ⟨A, c, rfl, hR, hb⟩
    have B0 := Lib.hid (blk_below (blk_new w (.cells #[.int .i64 0, .int .i64 0, .slice none 0 0] 53 (0, 0))) hb)
    have B1 := Lib.hid ((H.out.below ((Below.refl _ _).alloc (Nat.le_refl _) _)).below hb)
    have B2 := Lib.hid (((Below.refl w.heap.size w).alloc (Nat.le_refl _) _).trans (hb.mono (show w.heap.size ≤ _ by simp)))
    have B3 := Lib.hid hR
    have hwl : w.heap.size < w1.heap.size := by have := hb.size; simp at this; omega
    have HWL := Lib.hid hwl
    clear hR hb hwl
    have B4 := Lib.hid (blk_alloc B0.out (.cells #[.int .i64 t, .int .i64 u, .slice A p.length c] 53))
    have B5 := Lib.hid (B1.out.below ((Below.refl _ _).alloc (Nat.le_refl _) (.cells #[.int .i64 t, .int .i64 u, .slice A p.length c] 53)))
    have B6 := Lib.hid (blk_new w1 (.cells #[.int .i64 t, .int .i64 u, .slice A p.length c] 53 (0, 0)))
    have B7 := Lib.hid (Kd.R_alloc B3.out (.cells #[.int .i64 t, .int .i64 u, .slice A p.length c] 53))
    obtain ⟨c0_, c1⟩ := blkc2 B5.out.f
    obtain ⟨f0_, f1⟩ := blkf2 B5.out.f
    have WS := Lib.hid (show w.heap.size < (w.alloc (.cells #[.int .i64 0, .int .i64 0, .slice none 0 0] 53)).heap.size by simp)
    have WS2 := Lib.hid (show w.heap.size ≤ (w.alloc (.cells #[.int .i64 0, .int .i64 0, .slice none 0 0] 53)).heap.size by simp)
    have NX := Lib.hid (show nextOf C q bad = (q.drop n.toNat, bad) by unfold nextOf; rw [HF.out]; exact if_neg he)
    have hlt := H.out.r.lt
    have hfl := blk_lt H.out.f
    have hne := H.out.ne
    have C4 := Lib.hid (B2.out.alloc B2.out.size (.cells #[.int .i64 t, .int .i64 u, .slice A p.length c] 53))
    go_wp2_with (fail)
    refine (ring_Take _ g B M q B5.out.r n _ rfl).mono ?_
    rintro e w4 ⟨At, ct, rfl, _, hr2, hf2⟩
    have K1 := Lib.hid ((hf2.block w.heap.size (blk_lt B4.out) (by omega) (by omega)).trans B4.out)
    have K2 := Lib.hid ((hf2.block w1.heap.size (blk_lt B6.out) (by have := HWL.out; omega) (by have := HWL.out; omega)).trans B6.out)
    have K3 := Lib.hid (B5.out.fr hr2 hf2)
    have K4 := Lib.hid (Kd.R_step (Kd.R_bound B7.out) (fun k hk hl => hf2.block k hl (by have := hk.2.1; have := HWL.out; have := WS.out; omega) (by have := hk.2.1; have := HWL.out; have := WS.out; omega)))
    have K5 := Lib.hid ((show Fr3 gf g B w w4 from (Fr3.of_below C4.out).trans (Fr3.of_fr2 hf2)))
    obtain ⟨x0, x1, x2⟩ := blkc3 K1.out
    obtain ⟨y0, y1, y2⟩ := blkf3 K1.out
    obtain ⟨z0, z1, z2⟩ := blkc3 K2.out
    clear hr2 hf2
    go_wp2_with (fail)
    have hW := res3 (a := .int .i64 t) (b := .int .i64 u) (c := .slice A p.length c) K1.out
    have hr0 := (blk_cell hW 0).trans rfl
    have hr1 := (blk_cell hW 1).trans rfl
    have hr2 := (blk_cell hW 2).trans rfl
    have hR2 := Kd.R_far (Kd.R_far (Kd.R_far (Kd.R_mono K4.out (fun k_ h_ => And.intro h_.1 (show k_ ≠ w.heap.size by have := h_.2.1; have := WS.out; omega))) (p := ⟨w.heap.size, 0, none⟩) (fun k_ h_ => h_.2) (.int .i64 t)) (p := ⟨w.heap.size, 1, none⟩) (fun k_ h_ => h_.2) (.int .i64 u)) (p := ⟨w.heap.size, 2, none⟩) (fun k_ h_ => h_.2) (.slice A p.length c)
    have hfin : Fr3 gf g B w (((w4.setCell ⟨w.heap.size, 0, none⟩ (.int .i64 t)).setCell ⟨w.heap.size, 1, none⟩ (.int .i64 u)).setCell ⟨w.heap.size, 2, none⟩ (.slice A p.length c)) := ((K5.out.new (Nat.le_refl _) 0 (.int .i64 t)).new (Nat.le_refl _) 1 (.int .i64 u)).new (Nat.le_refl _) 2 (.slice A p.length c)
    have hfl2 := ((K3.out.far (i := 0) (v := .int .i64 t) (x := w.heap.size) (by omega) (by omega) (by omega)).far (i := 1) (v := .int .i64 u) (x := w.heap.size) (by omega) (by omega) (by omega)).far (i := 2) (v := .slice A p.length c) (x := w.heap.size) (by omega) (by omega) (by omega)
    exact bodyPost_ret (v := .tuple #[.agg #[.int .i64 t, .int .i64 u, .slice A p.length c], .int .i64 e0]) (by simp [results, Try.results36, go_sem, hr0, hr1, hr2]) rfl ⟨A, c, rfl, Kd.R_mono (Kd.R_lower hR2 WS2.out) (fun _ _ => trivial), by rw [NX.out]; exact hfl2, hfin⟩
end Go.Proofs.Ytakiojmjalbfpaa.Ring
