-- written by a program of this session (wip/pp) over the kit's print.py; Lean checks it
import Derived.Test.YtkioalfallhegaaPCtrlx0
import Derived.Test.YtkioalfallhegaaPCtrlx9
import Derived.Test.YtkioalfallhegaaPCtrlx10
import Derived.Test.YtkioalfallhegaaPCtrlx11
namespace Go.Proofs.Ytkioalfallhegaa.PCtrl
open Go.RowKit Go.Proofs.YtkioalfallhegaaW.PrintWords Go.Proofs.YtkioalfallhegaaW.PrintLast Go.Proofs.YtkioalfallhegaaW.PrintMore
attribute [local go_sem] max2_int min2_int max_two min_two max_three min_three max_four min_four plus_setCell_drewN plus_cell_same   -- for this text's walks alone
set_option linter.unusedVariables false
set_option linter.unusedSimpArgs false

/-! ### busbarlaw0_Ask: function 15 -/
mutual
def busbarlaw0_Ask.j0 : Nat → Int → Int → Int → Int → Option (Int × Int × Int × Int × Int × Int × List Bool × List Int × Int × Int × Int × Int)
 | 0, _, _, _, _ => none
 | k + 1, x0, x1, x5, x6 => (busbarlaw0_Within.f x0 16).bind fun t130 => (if t130 = 0 then (some (1, x5, x6, 0, 0, 0, ([] : List Bool), ([] : List Int), 0, 0, 0, 0)) else (if t130 = 1 then (some (2, x5, x6, 0, 0, 0, ([] : List Bool), ([] : List Int), 0, 0, 0, 0)) else (if t130 = 2 then (busbarlaw0_Ask.j1 k x0 x1 x6 t130 (t130 == 2) 0 x5 0 0 0 0 0 0 0 0) else (if t130 = 3 then (busbarlaw0_Ask.j1 k x0 x1 x6 t130 (t130 == 3) 0 x5 0 0 0 0 0 0 0 0) else (busbarlaw0_Ask.j1 k x0 x1 x6 t130 (t130 == 4) 0 x5 0 0 0 0 0 0 0 0)))))
def busbarlaw0_Ask.j1 : Nat → Int → Int → Int → Int → Bool → Int → Int → Int → Int → Int → Int → Int → Int → Int → Int → Option (Int × Int × Int × Int × Int × Int × List Bool × List Int × Int × Int × Int × Int)
 | 0, _, _, _, _, _, _, _, _, _, _, _, _, _, _, _ => none
 | k + 1, x0, x1, x6, x22, x39, x130000, x130001, x130002, x130003, x130004, x130005, x130008, x130009, x130010, x130011 => if x39 = true then (some (3, x130001, x6, x130003, x130004, x130005, ([] : List Bool), ([] : List Int), x130008, x130009, x130010, x130011)) else (if x22 = 5 then (some (4, x130001, x6, x130003, x130004, x130005, ([] : List Bool), ([] : List Int), x130008, x130009, x130010, x130011)) else (if x22 = 6 then ((busbarlaw0_Within.f x1 2).bind fun t131 => (some (5, x130001, x130002, IntKind.u16.wrap (t131), x130004, x130005, ([] : List Bool), ([] : List Int), x130008, x130009, x130010, x130011))) else (if x22 = 7 then (busbarlaw0_Ask.j2 k x0 x1 x6 x22 (x22 == 7) x130000 x130001 x130002 x130003 x130004 x130005 x130008 x130009 x130010 x130011) else (if x22 = 8 then (busbarlaw0_Ask.j2 k x0 x1 x6 x22 (x22 == 8) x130000 x130001 x130002 x130003 x130004 x130005 x130008 x130009 x130010 x130011) else (busbarlaw0_Ask.j2 k x0 x1 x6 x22 (x22 == 9) x130000 x130001 x130002 x130003 x130004 x130005 x130008 x130009 x130010 x130011)))))
def busbarlaw0_Ask.j2 : Nat → Int → Int → Int → Int → Bool → Int → Int → Int → Int → Int → Int → Int → Int → Int → Int → Option (Int × Int × Int × Int × Int × Int × List Bool × List Int × Int × Int × Int × Int)
 | 0, _, _, _, _, _, _, _, _, _, _, _, _, _, _, _ => none
 | k + 1, x0, x1, x6, x22, x58, x130000, x130001, x130002, x130003, x130004, x130005, x130008, x130009, x130010, x130011 => if x58 = true then ((busbarlaw0_Within.f x1 60000).bind fun t132 => (some (6, x130001, x130002, IntKind.u16.wrap (t132), x130004, x130005, ([] : List Bool), ([] : List Int), x130008, x130009, x130010, x130011))) else (if x22 = 10 then ((busbarlaw0_Digit.f x1 64 3).bind fun t133 => (if t133 = 0 then ((busbarlaw0_Digit.f x0 16 20).bind fun t134 => (busbarlaw0_Ask.j3 k x1 (wrap64 (14 + x6)) x130000 t134 x130002 x130003 x130004 x130005 x130008 x130009 x130010 x130011)) else (busbarlaw0_Ask.j3 k x1 x6 x130000 x130001 x130002 x130003 x130004 x130005 x130008 x130009 x130010 x130011))) else (if x22 = 11 then (busbarlaw0_Ask.j5 k x1 x6 x22 (x22 == 11) x130000 x130001 x130002 x130003 x130004 x130005 x130008 x130009 x130010 x130011) else (busbarlaw0_Ask.j5 k x1 x6 x22 (x22 == 12) x130000 x130001 x130002 x130003 x130004 x130005 x130008 x130009 x130010 x130011)))
def busbarlaw0_Ask.j3 : Nat → Int → Int → Int → Int → Int → Int → Int → Int → Int → Int → Int → Int → Option (Int × Int × Int × Int × Int × Int × List Bool × List Int × Int × Int × Int × Int)
 | 0, _, _, _, _, _, _, _, _, _, _, _, _ => none
 | k + 1, x1, x6, x130000, x130001, x130002, x130003, x130004, x130005, x130008, x130009, x130010, x130011 => busbarlaw0_Ask.l0 k x1 x6 0 15 x130001 x6 x130003 x130004 x130005 ([] : List Bool) x130008 x130009 x130010 x130011
def busbarlaw0_Ask.l0 : Nat → Int → Int → Int → Int → Int → Int → Int → Int → Int → List Bool → Int → Int → Int → Int → Option (Int × Int × Int × Int × Int × Int × List Bool × List Int × Int × Int × Int × Int)
 | 0, _, _, _, _, _, _, _, _, _, _, _, _, _, _ => none
 | k + 1, x1, x6, x8, x130000, x130001, x130002, x130003, x130004, x130005, x130006, x130008, x130009, x130010, x130011 => if x8 < x6 then ((busbarlaw0_Within.f x1 (wrap64 (7 + x8))).bind fun t135 => (if x130006.length < 140737488355328 then (busbarlaw0_Ask.l0 k x1 x6 (wrap64 (x8 + 1)) x130000 x130001 x130002 x130003 x130004 x130005 (x130006 ++ [((Int.tmod t135 2) == 1)]) x130008 x130009 x130010 x130011) else (none))) else (some (x130000, x130001, x130002, x130003, x130004, x130005, x130006, ([] : List Int), x130008, x130009, x130010, x130011))
def busbarlaw0_Ask.j5 : Nat → Int → Int → Int → Bool → Int → Int → Int → Int → Int → Int → Int → Int → Int → Int → Option (Int × Int × Int × Int × Int × Int × List Bool × List Int × Int × Int × Int × Int)
 | 0, _, _, _, _, _, _, _, _, _, _, _, _, _, _ => none
 | k + 1, x1, x6, x22, x96, x130000, x130001, x130002, x130003, x130004, x130005, x130008, x130009, x130010, x130011 => if x96 = true then ((busbarlaw0_words.f k x1 x6).bind fun t139 => (some (16, x130001, x6, x130003, x130004, x130005, ([] : List Bool), t139, x130008, x130009, x130010, x130011))) else (if x22 = 13 then ((busbarlaw0_Within.f x1 65536).bind fun t142 => ((busbarlaw0_Digit.f x1 65536 65536).bind fun t143 => (some (22, x130001, x130002, x130003, IntKind.u16.wrap (t142), IntKind.u16.wrap (t143), ([] : List Bool), ([] : List Int), x130008, x130009, x130010, x130011)))) else (if x22 = 14 then ((busbarlaw0_words.f k x1 x6).bind fun t144 => ((busbarlaw0_Within.f x1 40).bind fun t147 => ((busbarlaw0_Digit.f x1 40 6).bind fun t148 => (some (23, x130001, x6, x130003, x130004, x130005, ([] : List Bool), t144, t147, wrap64 (1 + t148), x130010, x130011))))) else ((busbarlaw0_Within.f x1 4).bind fun t149 => ((busbarlaw0_Digit.f x1 4 5).bind fun t150 => (some (43, 0, 0, 0, 0, 0, ([] : List Bool), ([] : List Int), 0, 0, wrap64 (1 + t149), t150))))))
end
def busbarlaw0_Ask.f (k : Nat) (a0 : Int) (a1 : Int) : Option (Int × Int × Int × Int × Int × Int × List Bool × List Int × Int × Int × Int × Int) := (busbarlaw0_Digit.f a0 16 40).bind fun t125 => ((busbarlaw0_Digit.f a0 640 6).bind fun t126 => ((busbarlaw0_Digit.f a0 3840 12).bind fun t127 => (if t127 = 0 then ((busbarlaw0_Digit.f a0 46080 65536).bind fun t128 => (busbarlaw0_Ask.j0 k a0 a1 t128 (wrap64 (1 + t126)))) else (busbarlaw0_Ask.j0 k a0 a1 t125 (wrap64 (1 + t126))))))
theorem busbarlaw0_Ask.mono_l : ∀ k, (∀ y0 y1 y2 y3, LeO (busbarlaw0_Ask.j0 k y0 y1 y2 y3) (busbarlaw0_Ask.j0 (k + 1) y0 y1 y2 y3)) ∧ (∀ y0 y1 y2 y3 y4 y5 y6 y7 y8 y9 y10 y11 y12 y13 y14, LeO (busbarlaw0_Ask.j1 k y0 y1 y2 y3 y4 y5 y6 y7 y8 y9 y10 y11 y12 y13 y14) (busbarlaw0_Ask.j1 (k + 1) y0 y1 y2 y3 y4 y5 y6 y7 y8 y9 y10 y11 y12 y13 y14)) ∧ (∀ y0 y1 y2 y3 y4 y5 y6 y7 y8 y9 y10 y11 y12 y13 y14, LeO (busbarlaw0_Ask.j2 k y0 y1 y2 y3 y4 y5 y6 y7 y8 y9 y10 y11 y12 y13 y14) (busbarlaw0_Ask.j2 (k + 1) y0 y1 y2 y3 y4 y5 y6 y7 y8 y9 y10 y11 y12 y13 y14)) ∧ (∀ y0 y1 y2 y3 y4 y5 y6 y7 y8 y9 y10 y11, LeO (busbarlaw0_Ask.j3 k y0 y1 y2 y3 y4 y5 y6 y7 y8 y9 y10 y11) (busbarlaw0_Ask.j3 (k + 1) y0 y1 y2 y3 y4 y5 y6 y7 y8 y9 y10 y11)) ∧ (∀ y0 y1 y2 y3 y4 y5 y6 y7 y8 y9 y10 y11 y12 y13, LeO (busbarlaw0_Ask.l0 k y0 y1 y2 y3 y4 y5 y6 y7 y8 y9 y10 y11 y12 y13) (busbarlaw0_Ask.l0 (k + 1) y0 y1 y2 y3 y4 y5 y6 y7 y8 y9 y10 y11 y12 y13)) ∧ (∀ y0 y1 y2 y3 y4 y5 y6 y7 y8 y9 y10 y11 y12 y13, LeO (busbarlaw0_Ask.j5 k y0 y1 y2 y3 y4 y5 y6 y7 y8 y9 y10 y11 y12 y13) (busbarlaw0_Ask.j5 (k + 1) y0 y1 y2 y3 y4 y5 y6 y7 y8 y9 y10 y11 y12 y13))
 | 0 => ⟨fun _ _ _ _ r h => by simp [busbarlaw0_Ask.j0] at h, fun _ _ _ _ _ _ _ _ _ _ _ _ _ _ _ r h => by simp [busbarlaw0_Ask.j1] at h, fun _ _ _ _ _ _ _ _ _ _ _ _ _ _ _ r h => by simp [busbarlaw0_Ask.j2] at h, fun _ _ _ _ _ _ _ _ _ _ _ _ r h => by simp [busbarlaw0_Ask.j3] at h, fun _ _ _ _ _ _ _ _ _ _ _ _ _ _ r h => by simp [busbarlaw0_Ask.l0] at h, fun _ _ _ _ _ _ _ _ _ _ _ _ _ _ r h => by simp [busbarlaw0_Ask.j5] at h⟩
 | k + 1 => by
  obtain ⟨ih0, ih1, ih2, ih3, ih4, ih5⟩ := busbarlaw0_Ask.mono_l k
  refine ⟨?_, ?_, ?_, ?_, ?_, ?_⟩
  ·
   intro y0 y1 y2 y3
   unfold busbarlaw0_Ask.j0
   repeat' first
   | (with_reducible exact ih0 _ _ _ _)
   | (with_reducible exact ih1 _ _ _ _ _ _ _ _ _ _ _ _ _ _ _)
   | (with_reducible exact ih2 _ _ _ _ _ _ _ _ _ _ _ _ _ _ _)
   | (with_reducible exact ih3 _ _ _ _ _ _ _ _ _ _ _ _)
   | (with_reducible exact ih4 _ _ _ _ _ _ _ _ _ _ _ _ _ _)
   | (with_reducible exact ih5 _ _ _ _ _ _ _ _ _ _ _ _ _ _)
   | (with_reducible exact busbarlaw0_words.mono _ _ _)
   | (with_reducible exact LeO.refl _)
   | (with_reducible exact LeO.none _)
   | (with_reducible refine LeO.ite ?_ ?_)
   | (with_reducible refine LeO.bind ?_ (fun _ => ?_))
   | exact ih0 _ _ _ _
   | exact ih1 _ _ _ _ _ _ _ _ _ _ _ _ _ _ _
   | exact ih2 _ _ _ _ _ _ _ _ _ _ _ _ _ _ _
   | exact ih3 _ _ _ _ _ _ _ _ _ _ _ _
   | exact ih4 _ _ _ _ _ _ _ _ _ _ _ _ _ _
   | exact ih5 _ _ _ _ _ _ _ _ _ _ _ _ _ _
   | exact busbarlaw0_words.mono _ _ _
   | exact LeO.none _
   | refine LeO.ite ?_ ?_
   | refine LeO.bind ?_ (fun _ => ?_)
  ·
   intro y0 y1 y2 y3 y4 y5 y6 y7 y8 y9 y10 y11 y12 y13 y14
   unfold busbarlaw0_Ask.j1
   repeat' first
   | (with_reducible exact ih0 _ _ _ _)
   | (with_reducible exact ih1 _ _ _ _ _ _ _ _ _ _ _ _ _ _ _)
   | (with_reducible exact ih2 _ _ _ _ _ _ _ _ _ _ _ _ _ _ _)
   | (with_reducible exact ih3 _ _ _ _ _ _ _ _ _ _ _ _)
   | (with_reducible exact ih4 _ _ _ _ _ _ _ _ _ _ _ _ _ _)
   | (with_reducible exact ih5 _ _ _ _ _ _ _ _ _ _ _ _ _ _)
   | (with_reducible exact busbarlaw0_words.mono _ _ _)
   | (with_reducible exact LeO.refl _)
   | (with_reducible exact LeO.none _)
   | (with_reducible refine LeO.ite ?_ ?_)
   | (with_reducible refine LeO.bind ?_ (fun _ => ?_))
   | exact ih0 _ _ _ _
   | exact ih1 _ _ _ _ _ _ _ _ _ _ _ _ _ _ _
   | exact ih2 _ _ _ _ _ _ _ _ _ _ _ _ _ _ _
   | exact ih3 _ _ _ _ _ _ _ _ _ _ _ _
   | exact ih4 _ _ _ _ _ _ _ _ _ _ _ _ _ _
   | exact ih5 _ _ _ _ _ _ _ _ _ _ _ _ _ _
   | exact busbarlaw0_words.mono _ _ _
   | exact LeO.none _
   | refine LeO.ite ?_ ?_
   | refine LeO.bind ?_ (fun _ => ?_)
  ·
   intro y0 y1 y2 y3 y4 y5 y6 y7 y8 y9 y10 y11 y12 y13 y14
   unfold busbarlaw0_Ask.j2
   repeat' first
   | (with_reducible exact ih0 _ _ _ _)
   | (with_reducible exact ih1 _ _ _ _ _ _ _ _ _ _ _ _ _ _ _)
   | (with_reducible exact ih2 _ _ _ _ _ _ _ _ _ _ _ _ _ _ _)
   | (with_reducible exact ih3 _ _ _ _ _ _ _ _ _ _ _ _)
   | (with_reducible exact ih4 _ _ _ _ _ _ _ _ _ _ _ _ _ _)
   | (with_reducible exact ih5 _ _ _ _ _ _ _ _ _ _ _ _ _ _)
   | (with_reducible exact busbarlaw0_words.mono _ _ _)
   | (with_reducible exact LeO.refl _)
   | (with_reducible exact LeO.none _)
   | (with_reducible refine LeO.ite ?_ ?_)
   | (with_reducible refine LeO.bind ?_ (fun _ => ?_))
   | exact ih0 _ _ _ _
   | exact ih1 _ _ _ _ _ _ _ _ _ _ _ _ _ _ _
   | exact ih2 _ _ _ _ _ _ _ _ _ _ _ _ _ _ _
   | exact ih3 _ _ _ _ _ _ _ _ _ _ _ _
   | exact ih4 _ _ _ _ _ _ _ _ _ _ _ _ _ _
   | exact ih5 _ _ _ _ _ _ _ _ _ _ _ _ _ _
   | exact busbarlaw0_words.mono _ _ _
   | exact LeO.none _
   | refine LeO.ite ?_ ?_
   | refine LeO.bind ?_ (fun _ => ?_)
  ·
   intro y0 y1 y2 y3 y4 y5 y6 y7 y8 y9 y10 y11
   unfold busbarlaw0_Ask.j3
   repeat' first
   | (with_reducible exact ih0 _ _ _ _)
   | (with_reducible exact ih1 _ _ _ _ _ _ _ _ _ _ _ _ _ _ _)
   | (with_reducible exact ih2 _ _ _ _ _ _ _ _ _ _ _ _ _ _ _)
   | (with_reducible exact ih3 _ _ _ _ _ _ _ _ _ _ _ _)
   | (with_reducible exact ih4 _ _ _ _ _ _ _ _ _ _ _ _ _ _)
   | (with_reducible exact ih5 _ _ _ _ _ _ _ _ _ _ _ _ _ _)
   | (with_reducible exact busbarlaw0_words.mono _ _ _)
   | (with_reducible exact LeO.refl _)
   | (with_reducible exact LeO.none _)
   | (with_reducible refine LeO.ite ?_ ?_)
   | (with_reducible refine LeO.bind ?_ (fun _ => ?_))
   | exact ih0 _ _ _ _
   | exact ih1 _ _ _ _ _ _ _ _ _ _ _ _ _ _ _
   | exact ih2 _ _ _ _ _ _ _ _ _ _ _ _ _ _ _
   | exact ih3 _ _ _ _ _ _ _ _ _ _ _ _
   | exact ih4 _ _ _ _ _ _ _ _ _ _ _ _ _ _
   | exact ih5 _ _ _ _ _ _ _ _ _ _ _ _ _ _
   | exact busbarlaw0_words.mono _ _ _
   | exact LeO.none _
   | refine LeO.ite ?_ ?_
   | refine LeO.bind ?_ (fun _ => ?_)
  ·
   intro y0 y1 y2 y3 y4 y5 y6 y7 y8 y9 y10 y11 y12 y13
   unfold busbarlaw0_Ask.l0
   repeat' first
   | (with_reducible exact ih0 _ _ _ _)
   | (with_reducible exact ih1 _ _ _ _ _ _ _ _ _ _ _ _ _ _ _)
   | (with_reducible exact ih2 _ _ _ _ _ _ _ _ _ _ _ _ _ _ _)
   | (with_reducible exact ih3 _ _ _ _ _ _ _ _ _ _ _ _)
   | (with_reducible exact ih4 _ _ _ _ _ _ _ _ _ _ _ _ _ _)
   | (with_reducible exact ih5 _ _ _ _ _ _ _ _ _ _ _ _ _ _)
   | (with_reducible exact busbarlaw0_words.mono _ _ _)
   | (with_reducible exact LeO.refl _)
   | (with_reducible exact LeO.none _)
   | (with_reducible refine LeO.ite ?_ ?_)
   | (with_reducible refine LeO.bind ?_ (fun _ => ?_))
   | exact ih0 _ _ _ _
   | exact ih1 _ _ _ _ _ _ _ _ _ _ _ _ _ _ _
   | exact ih2 _ _ _ _ _ _ _ _ _ _ _ _ _ _ _
   | exact ih3 _ _ _ _ _ _ _ _ _ _ _ _
   | exact ih4 _ _ _ _ _ _ _ _ _ _ _ _ _ _
   | exact ih5 _ _ _ _ _ _ _ _ _ _ _ _ _ _
   | exact busbarlaw0_words.mono _ _ _
   | exact LeO.none _
   | refine LeO.ite ?_ ?_
   | refine LeO.bind ?_ (fun _ => ?_)
  ·
   intro y0 y1 y2 y3 y4 y5 y6 y7 y8 y9 y10 y11 y12 y13
   unfold busbarlaw0_Ask.j5
   repeat' first
   | (with_reducible exact ih0 _ _ _ _)
   | (with_reducible exact ih1 _ _ _ _ _ _ _ _ _ _ _ _ _ _ _)
   | (with_reducible exact ih2 _ _ _ _ _ _ _ _ _ _ _ _ _ _ _)
   | (with_reducible exact ih3 _ _ _ _ _ _ _ _ _ _ _ _)
   | (with_reducible exact ih4 _ _ _ _ _ _ _ _ _ _ _ _ _ _)
   | (with_reducible exact ih5 _ _ _ _ _ _ _ _ _ _ _ _ _ _)
   | (with_reducible exact busbarlaw0_words.mono _ _ _)
   | (with_reducible exact LeO.refl _)
   | (with_reducible exact LeO.none _)
   | (with_reducible refine LeO.ite ?_ ?_)
   | (with_reducible refine LeO.bind ?_ (fun _ => ?_))
   | exact ih0 _ _ _ _
   | exact ih1 _ _ _ _ _ _ _ _ _ _ _ _ _ _ _
   | exact ih2 _ _ _ _ _ _ _ _ _ _ _ _ _ _ _
   | exact ih3 _ _ _ _ _ _ _ _ _ _ _ _
   | exact ih4 _ _ _ _ _ _ _ _ _ _ _ _ _ _
   | exact ih5 _ _ _ _ _ _ _ _ _ _ _ _ _ _
   | exact busbarlaw0_words.mono _ _ _
   | exact LeO.none _
   | refine LeO.ite ?_ ?_
   | refine LeO.bind ?_ (fun _ => ?_)
theorem busbarlaw0_Ask.mono : ∀ a0 a1 k, LeO (busbarlaw0_Ask.f k a0 a1) (busbarlaw0_Ask.f (k + 1) a0 a1) := by
 intro a0 a1 k
 obtain ⟨ih0, ih1, ih2, ih3, ih4, ih5⟩ := busbarlaw0_Ask.mono_l k
 unfold busbarlaw0_Ask.f
 repeat' first
   | (with_reducible exact ih0 _ _ _ _)
   | (with_reducible exact ih1 _ _ _ _ _ _ _ _ _ _ _ _ _ _ _)
   | (with_reducible exact ih2 _ _ _ _ _ _ _ _ _ _ _ _ _ _ _)
   | (with_reducible exact ih3 _ _ _ _ _ _ _ _ _ _ _ _)
   | (with_reducible exact ih4 _ _ _ _ _ _ _ _ _ _ _ _ _ _)
   | (with_reducible exact ih5 _ _ _ _ _ _ _ _ _ _ _ _ _ _)
   | (with_reducible exact busbarlaw0_words.mono _ _ _)
   | (with_reducible exact LeO.refl _)
   | (with_reducible exact LeO.none _)
   | (with_reducible refine LeO.ite ?_ ?_)
   | (with_reducible refine LeO.bind ?_ (fun _ => ?_))
   | exact ih0 _ _ _ _
   | exact ih1 _ _ _ _ _ _ _ _ _ _ _ _ _ _ _
   | exact ih2 _ _ _ _ _ _ _ _ _ _ _ _ _ _ _
   | exact ih3 _ _ _ _ _ _ _ _ _ _ _ _
   | exact ih4 _ _ _ _ _ _ _ _ _ _ _ _ _ _
   | exact ih5 _ _ _ _ _ _ _ _ _ _ _ _ _ _
   | exact busbarlaw0_words.mono _ _ _
   | exact LeO.none _
   | refine LeO.ite ?_ ?_
   | refine LeO.bind ?_ (fun _ => ?_)
def busbarlaw0_Ask.T30 : Bool × List (List Nat × List Nat) := (true, [([], []), ([0], [0]), ([], []), ([], []), ([3], [3]), ([2, 4], [2, 4]), ([5], [5]), ([6], [6]), ([7], [7]), ([1, 8, 5], [1, 8]), ([0, 1, 2, 3, 4, 5, 6, 7, 8, 9], []), ([10, 9, 9, 0, 1, 2, 3, 4, 5, 6, 7, 8, 9], [9, 10])])
def busbarlaw0_Ask.B30 : List Nat := [0, 1, 0, 0, 8, 28, 60, 124, 252, 511, 1023, 2047]
theorem busbarlaw0_Ask.tab30 : rtab .any (opsOf Try.f15 30) = busbarlaw0_Ask.T30 := by kernel_rfl
theorem busbarlaw0_Ask.bits30 : waitsOk busbarlaw0_Ask.T30.2 busbarlaw0_Ask.B30 = true := by kernel_rfl
set_option maxHeartbeats 8000000 in
set_option maxRecDepth 100000 in
theorem busbarlaw0_Ask.calls (k : Nat) (a0 : Int) (a1 : Int) (r1 : Int) (r2 : Int) (r3 : Int) (r4 : Int) (r5 : Int) (r6 : Int) (r7 : List Bool) (r8 : List Int) (r9 : Int) (r10 : Int) (r11 : Int) (r12 : Int) (w : World) (h : busbarlaw0_Ask.f k a0 a1 = some (r1, r2, r3, r4, r5, r6, r7, r8, r9, r10, r11, r12)) :
  Calls Try.prog 15 #[.int .i64 a0, .int .i64 a1] w fun e w' => ∃ v6_ v7_ : Value, e = .returned (.agg #[.int .i64 r1, .int .i64 r2, .int .i64 r3, .int .u16 r4, .int .u16 r5, .int .u16 r6, v6_, v7_, .int .i64 r9, .int .i64 r10, .int .i64 r11, .int .i64 r12]) ∧ Kd.R Kd.bool 4 w' w.heap.size (fun _ => True) v6_ r7 ∧ Kd.R (Kd.int .u16) 22 w' w.heap.size (fun _ => True) v7_ r8 ∧ Below w.heap.size w w' := by
 have hu26 := Try.underlying26
 have HB := Aside0.mk (Below.refl w.heap.size w)
 have H : ((busbarlaw0_Digit.f a0 16 40).bind fun t125 => ((busbarlaw0_Digit.f a0 640 6).bind fun t126 => ((busbarlaw0_Digit.f a0 3840 12).bind fun t127 => (if t127 = 0 then ((busbarlaw0_Digit.f a0 46080 65536).bind fun t128 => (busbarlaw0_Ask.j0 k a0 a1 t128 (wrap64 (1 + t126)))) else (busbarlaw0_Ask.j0 k a0 a1 t125 (wrap64 (1 + t126))))))) = some (r1, r2, r3, r4, r5, r6, r7, r8, r9, r10, r11, r12) := h
 clear h
 replace H := Option.bind_eq_some_iff.mp H
 obtain ⟨t125, A30, H⟩ := H
 replace H : ((busbarlaw0_Digit.f a0 640 6).bind fun t126 => ((busbarlaw0_Digit.f a0 3840 12).bind fun t127 => (if t127 = 0 then ((busbarlaw0_Digit.f a0 46080 65536).bind fun t128 => (busbarlaw0_Ask.j0 k a0 a1 t128 (wrap64 (1 + t126)))) else (busbarlaw0_Ask.j0 k a0 a1 t125 (wrap64 (1 + t126)))))) = some (r1, r2, r3, r4, r5, r6, r7, r8, r9, r10, r11, r12) := H
 have A3 := Aside0.mk A30
 clear A30
 replace H := Option.bind_eq_some_iff.mp H
 obtain ⟨t126, A40, H⟩ := H
 replace H : ((busbarlaw0_Digit.f a0 3840 12).bind fun t127 => (if t127 = 0 then ((busbarlaw0_Digit.f a0 46080 65536).bind fun t128 => (busbarlaw0_Ask.j0 k a0 a1 t128 (wrap64 (1 + t126)))) else (busbarlaw0_Ask.j0 k a0 a1 t125 (wrap64 (1 + t126))))) = some (r1, r2, r3, r4, r5, r6, r7, r8, r9, r10, r11, r12) := H
 have A4 := Aside0.mk A40
 clear A40
 replace H := Option.bind_eq_some_iff.mp H
 obtain ⟨t127, A50, H⟩ := H
 replace H : (if t127 = 0 then ((busbarlaw0_Digit.f a0 46080 65536).bind fun t128 => (busbarlaw0_Ask.j0 k a0 a1 t128 (wrap64 (1 + t126)))) else (busbarlaw0_Ask.j0 k a0 a1 t125 (wrap64 (1 + t126)))) = some (r1, r2, r3, r4, r5, r6, r7, r8, r9, r10, r11, r12) := H
 have A5 := Aside0.mk A50
 clear A50
 have HC6 := Aside0.mk H
 clear H
 go_enter Try.func15, Try.ntmps15
 go_upto_if 16 with (first | ((with_reducible refine gate_dst (N := 4) rfl ?_); refine box_event ?hg (N := 4) ?hd (cs := #[.int .i64 0, .int .i64 0, .int .i64 0, .int .u16 0, .int .u16 0, .int .u16 0, .slice none 0 0, .slice none 0 0, .int .i64 0, .int .i64 0, .int .i64 0, .int .i64 0]) (t := 26) ?hr ?_; (case hd => rfl); (case hg => rfl); (case hr => first | (go_simp; done) | (go_simp; rfl)); intro gb124 hg w7 hbox hb; have n0_ := Aside0.mk (below_step (by repeat (first | (with_reducible first | exact HB.out | apply below_alloc | apply pw_below_drewN | apply below_drew1) | exact HB.out)) hb); have n1_ := Aside0.mk (hbox); have n2_ := Aside0.mk ((by rw [hg]; exact (below_size (by repeat (first | (with_reducible first | exact HB.out | apply below_alloc | apply pw_below_drewN | apply below_drew1) | exact HB.out))) : w.heap.size ≤ gb124)); have n3_ := Aside0.mk ((by rw [hg]; exact (below_size (by repeat (first | (with_reducible first | exact HB.out | apply below_alloc | apply pw_below_drewN | apply below_drew1) | exact HB.out))) : w.heap.size ≤ gb124)); clear HB; have HB := n0_; have BK124 := n1_; have GW124 := n2_; have GE124 := n3_; clear n0_ n1_ n2_ n3_; clear hb hbox hg) | ((with_reducible refine gate_callee (f := 31) rfl ?_); refine goesL_ (some 10) rfl rfl Try.func31 (by kernel_rfl) rfl #[.int .i64 a0, .int .i64 16, .int .i64 40] rfl (by (try simp only [List.map_toArray, List.map_cons, List.map_nil]); first | done | rfl | (simp only [List.length_drop, List.length_take]; rfl)) ?_; (with_reducible refine (busbarlaw0_Digit.calls a0 16 40 t125 _ A3.out).mono ?_); rintro e w' ⟨rfl, ⟨nd, rfl⟩⟩; refine ⟨_, rfl, ?_⟩) | ((with_reducible refine gate_callee (f := 31) rfl ?_); refine goesL_ (some 12) rfl rfl Try.func31 (by kernel_rfl) rfl #[.int .i64 a0, .int .i64 640, .int .i64 6] rfl (by (try simp only [List.map_toArray, List.map_cons, List.map_nil]); first | done | rfl | (simp only [List.length_drop, List.length_take]; rfl)) ?_; (with_reducible refine (busbarlaw0_Digit.calls a0 640 6 t126 _ A4.out).mono ?_); rintro e w' ⟨rfl, ⟨nd, rfl⟩⟩; refine ⟨_, rfl, ?_⟩) | ((with_reducible refine gate_callee (f := 31) rfl ?_); refine goesL_ (some 15) rfl rfl Try.func31 (by kernel_rfl) rfl #[.int .i64 a0, .int .i64 3840, .int .i64 12] rfl (by (try simp only [List.map_toArray, List.map_cons, List.map_nil]); first | done | rfl | (simp only [List.length_drop, List.length_take]; rfl)) ?_; (with_reducible refine (busbarlaw0_Digit.calls a0 3840 12 t127 _ A5.out).mono ?_); rintro e w' ⟨rfl, ⟨nd, rfl⟩⟩; refine ⟨_, rfl, ?_⟩))
 (try simp only [Act.put, List.setIfInBounds_toArray, List.set_cons_zero, List.set_cons_succ])
 go_cut [5] (fun v5 wc => ∃ (kq : Nat) (x5_5 : Int), v5 = .int .i64 x5_5 ∧ Aside0 (busbarlaw0_Ask.j0 kq a0 a1 x5_5 (wrap64 (1 + t126)) = some (r1, r2, r3, r4, r5, r6, r7, r8, r9, r10, r11, r12)) ∧ Aside0 (kq ≤ k) ∧ Aside0 (wc.heap[gb124]? = some (.cells #[.int .i64 0, .int .i64 0, .int .i64 0, .int .u16 0, .int .u16 0, .int .u16 0, (.slice none 0 0), (.slice none 0 0), .int .i64 0, .int .i64 0, .int .i64 0, .int .i64 0] 26 (0, 0))) ∧ Aside0 (Below w.heap.size w wc))
 case first =>
  have H := HC6.out
  clear HC6
  by_cases c8 : t127 = 0
  ·
   rw [if_pos c8] at H
   have c8b0 : (t127 == 0) = true := beq_iff_eq.mpr c8
   have c8b1 : (t127 != 0) = false := bne_eq_false_iff_eq.mpr c8
   clear c8
   (first | rw [c8b0] | (simp only [i64_w, i32_w]; rw [c8b0]) | skip)
   replace H := Option.bind_eq_some_iff.mp H
   obtain ⟨t128, A90, H⟩ := H
   replace H : (busbarlaw0_Ask.j0 k a0 a1 t128 (wrap64 (1 + t126))) = some (r1, r2, r3, r4, r5, r6, r7, r8, r9, r10, r11, r12) := H
   have A9 := Aside0.mk A90
   clear A90
   have H' := Aside0.mk H
   clear H
   go_wp2_with (first | ((with_reducible refine gate_callee (f := 31) rfl ?_); refine goesL_ (some 18) rfl rfl Try.func31 (by kernel_rfl) rfl #[.int .i64 a0, .int .i64 46080, .int .i64 65536] rfl (by (try simp only [List.map_toArray, List.map_cons, List.map_nil]); first | done | rfl | (simp only [List.length_drop, List.length_take]; rfl)) ?_; (with_reducible refine (busbarlaw0_Digit.calls a0 46080 65536 t128 _ A9.out).mono ?_); rintro e w' ⟨rfl, ⟨nd, rfl⟩⟩; refine ⟨_, rfl, ?_⟩))
   go_meet
   case rel => exact ⟨_, (t128), (by first | rfl | (simp; done) | (simp [*]; done)), H', ⟨by first | omega | exact Nat.le_refl _⟩, ⟨by (with_reducible repeat (first | refine blk_drewN ?_ _ | refine blk_drew ?_ | refine blk_alloc ?_ _)); exact BK124.out⟩, ⟨by repeat (first | (with_reducible first | exact HB.out | apply below_alloc | apply pw_below_drewN | apply below_drew1 | refine below_set ?_ GE124.out) | exact HB.out)⟩⟩
  ·
   rw [if_neg c8] at H
   have c8b0 : (t127 == 0) = false := beq_eq_false_iff_ne.mpr c8
   have c8b1 : (t127 != 0) = true := bne_iff_ne.mpr c8
   (first | rw [c8b0] | (simp only [i64_w, i32_w]; rw [c8b0]) | skip)
   have H' := Aside0.mk H
   clear H
   go_wp2
   go_meet
   case rel => exact ⟨_, (t125), (by first | rfl | (simp; done) | (simp [*]; done)), H', ⟨by first | omega | exact Nat.le_refl _⟩, ⟨by (with_reducible repeat (first | refine blk_drewN ?_ _ | refine blk_drew ?_ | refine blk_alloc ?_ _)); exact BK124.out⟩, ⟨by repeat (first | (with_reducible first | exact HB.out | apply below_alloc | apply pw_below_drewN | apply below_drew1 | refine below_set ?_ GE124.out) | exact HB.out)⟩⟩
 case rest =>
  clear HC6
  try clear c1
  try clear p2
  try clear c3
  try clear p6
  try clear c8
  try clear c8b0
  try clear c8b1
  obtain ⟨kq, x5_5, rfl, HA, HJ5, BK124, HB⟩ := hcut
  cases kq with
  | zero => exact absurd HA.out (by simp [busbarlaw0_Ask.j0])
  | succ kj5 =>
   have H := HA.out
   clear HA
   simp only [busbarlaw0_Ask.j0] at H
   replace H := Option.bind_eq_some_iff.mp H
   obtain ⟨t130, A100, H⟩ := H
   replace H : (if t130 = 0 then (some (1, x5_5, (wrap64 (1 + t126)), 0, 0, 0, ([] : List Bool), ([] : List Int), 0, 0, 0, 0)) else (if t130 = 1 then (some (2, x5_5, (wrap64 (1 + t126)), 0, 0, 0, ([] : List Bool), ([] : List Int), 0, 0, 0, 0)) else (if t130 = 2 then (busbarlaw0_Ask.j1 kj5 a0 a1 (wrap64 (1 + t126)) t130 (t130 == 2) 0 x5_5 0 0 0 0 0 0 0 0) else (if t130 = 3 then (busbarlaw0_Ask.j1 kj5 a0 a1 (wrap64 (1 + t126)) t130 (t130 == 3) 0 x5_5 0 0 0 0 0 0 0 0) else (busbarlaw0_Ask.j1 kj5 a0 a1 (wrap64 (1 + t126)) t130 (t130 == 4) 0 x5_5 0 0 0 0 0 0 0 0))))) = some (r1, r2, r3, r4, r5, r6, r7, r8, r9, r10, r11, r12) := H
   have A10 := Aside0.mk A100
   clear A100
   by_cases c11 : t130 = 0
   ·
    rw [if_pos c11] at H
    have c11b0 : (t130 == 0) = true := beq_iff_eq.mpr c11
    have c11b1 : (t130 != 0) = false := bne_eq_false_iff_eq.mpr c11
    clear c11
    simp only [Option.some.injEq, Prod.mk.injEq] at H
    obtain ⟨rfl, rfl, rfl, rfl, rfl, rfl, rfl, rfl, rfl, rfl, rfl, rfl⟩ := H
    go_wp2_with (first | ((with_reducible refine gate_dst (N := 7) rfl ?_); refine box_event ?hg (N := 7) ?hd (cs := #[.int .i64 0, .int .i64 0, .int .i64 0, .int .u16 0, .int .u16 0, .int .u16 0, .slice none 0 0, .slice none 0 0, .int .i64 0, .int .i64 0, .int .i64 0, .int .i64 0]) (t := 26) ?hr ?_; (case hd => rfl); (case hg => rfl); (case hr => first | (go_simp; done) | (go_simp; rfl)); intro gb129 hg w12 hbox hb; have n0_ := Aside0.mk (blk_below (g := gb124) (o := .cells #[.int .i64 0, .int .i64 0, .int .i64 0, .int .u16 0, .int .u16 0, .int .u16 0, .slice none 0 0, .slice none 0 0, .int .i64 0, .int .i64 0, .int .i64 0, .int .i64 0] 26 (0, 0)) (by (with_reducible repeat (first | refine blk_drewN ?_ _ | refine blk_drew ?_ | refine blk_alloc ?_ _)); exact BK124.out) hb); have n1_ := Aside0.mk (below_step (by repeat (first | (with_reducible first | exact HB.out | apply below_alloc | apply pw_below_drewN | apply below_drew1 | refine below_set ?_ GE124.out) | exact HB.out)) hb); have n2_ := Aside0.mk (hbox); have n3_ := Aside0.mk ((by rw [hg]; exact (below_size (by repeat (first | (with_reducible first | exact HB.out | apply below_alloc | apply pw_below_drewN | apply below_drew1 | refine below_set ?_ GE124.out) | exact HB.out))) : w.heap.size ≤ gb129)); have n4_ := Aside0.mk ((by rw [hg]; exact (below_size (by repeat (first | (with_reducible first | exact HB.out | apply below_alloc | apply pw_below_drewN | apply below_drew1 | refine below_set ?_ GE124.out) | exact HB.out))) : w.heap.size ≤ gb129)); have n5_ := Aside0.mk ((by rw [hg]; exact Nat.ne_of_lt (blk_lt (g := gb124) (o := .cells #[.int .i64 0, .int .i64 0, .int .i64 0, .int .u16 0, .int .u16 0, .int .u16 0, .slice none 0 0, .slice none 0 0, .int .i64 0, .int .i64 0, .int .i64 0, .int .i64 0] 26 (0, 0)) (by (with_reducible repeat (first | refine blk_drewN ?_ _ | refine blk_drew ?_ | refine blk_alloc ?_ _)); exact BK124.out)) : gb124 ≠ gb129)); have n6_ := Aside0.mk ((by rw [hg]; exact Nat.ne_of_gt (blk_lt (g := gb124) (o := .cells #[.int .i64 0, .int .i64 0, .int .i64 0, .int .u16 0, .int .u16 0, .int .u16 0, .slice none 0 0, .slice none 0 0, .int .i64 0, .int .i64 0, .int .i64 0, .int .i64 0] 26 (0, 0)) (by (with_reducible repeat (first | refine blk_drewN ?_ _ | refine blk_drew ?_ | refine blk_alloc ?_ _)); exact BK124.out)) : gb129 ≠ gb124)); clear BK124; clear HB; have BK124 := n0_; have HB := n1_; have BK129 := n2_; have GW129 := n3_; have GE129 := n4_; have NB124_129 := n5_; have NB129_124 := n6_; clear n0_ n1_ n2_ n3_ n4_ n5_ n6_; clear hb hbox hg; have hnb13 := NB129_124.out; have hnc13 := NB124_129.out; have hcz14_0 : w12.cell? ⟨gb129, 0, none⟩ = some (.int .i64 0) := (blk_cell BK129.out 0).trans rfl; have hcz14_1 : w12.cell? ⟨gb129, 1, none⟩ = some (.int .i64 0) := (blk_cell BK129.out 1).trans rfl; have hcz14_2 : w12.cell? ⟨gb129, 2, none⟩ = some (.int .i64 0) := (blk_cell BK129.out 2).trans rfl; have hcz14_3 : w12.cell? ⟨gb129, 3, none⟩ = some (.int .u16 0) := (blk_cell BK129.out 3).trans rfl; have hcz14_4 : w12.cell? ⟨gb129, 4, none⟩ = some (.int .u16 0) := (blk_cell BK129.out 4).trans rfl; have hcz14_5 : w12.cell? ⟨gb129, 5, none⟩ = some (.int .u16 0) := (blk_cell BK129.out 5).trans rfl; have hcz14_6 : w12.cell? ⟨gb129, 6, none⟩ = some (.slice none 0 0) := (blk_cell BK129.out 6).trans rfl; have hcz14_7 : w12.cell? ⟨gb129, 7, none⟩ = some (.slice none 0 0) := (blk_cell BK129.out 7).trans rfl; have hcz14_8 : w12.cell? ⟨gb129, 8, none⟩ = some (.int .i64 0) := (blk_cell BK129.out 8).trans rfl; have hcz14_9 : w12.cell? ⟨gb129, 9, none⟩ = some (.int .i64 0) := (blk_cell BK129.out 9).trans rfl; have hcz14_10 : w12.cell? ⟨gb129, 10, none⟩ = some (.int .i64 0) := (blk_cell BK129.out 10).trans rfl; have hcz14_11 : w12.cell? ⟨gb129, 11, none⟩ = some (.int .i64 0) := (blk_cell BK129.out 11).trans rfl; have hfz14_0 := blk_frozen BK129.out 0; have hfz14_1 := blk_frozen BK129.out 1; have hfz14_2 := blk_frozen BK129.out 2; have hfz14_3 := blk_frozen BK129.out 3; have hfz14_4 := blk_frozen BK129.out 4; have hfz14_5 := blk_frozen BK129.out 5; have hfz14_6 := blk_frozen BK129.out 6; have hfz14_7 := blk_frozen BK129.out 7; have hfz14_8 := blk_frozen BK129.out 8; have hfz14_9 := blk_frozen BK129.out 9; have hfz14_10 := blk_frozen BK129.out 10; have hfz14_11 := blk_frozen BK129.out 11) | ((with_reducible refine gate_callee (f := 16) rfl ?_); refine goesL_ (some 22) rfl rfl Try.func16 (by kernel_rfl) rfl #[.int .i64 a0, .int .i64 16] rfl (by (try simp only [List.map_toArray, List.map_cons, List.map_nil]); first | done | rfl | (simp only [List.length_drop, List.length_take]; rfl)) ?_; (with_reducible refine (busbarlaw0_Within.calls a0 16 t130 _ A10.out).mono ?_); rintro e w' ⟨rfl, ⟨nd, rfl⟩⟩; refine ⟨_, rfl, ?_⟩; have hcz15_0 : w12.cell? ⟨gb124, 0, none⟩ = some (.int .i64 0) := (blk_cell BK124.out 0).trans rfl; have hcz15_1 : w12.cell? ⟨gb124, 1, none⟩ = some (.int .i64 0) := (blk_cell BK124.out 1).trans rfl; have hcz15_2 : w12.cell? ⟨gb124, 2, none⟩ = some (.int .i64 0) := (blk_cell BK124.out 2).trans rfl; have hcz15_3 : w12.cell? ⟨gb124, 3, none⟩ = some (.int .u16 0) := (blk_cell BK124.out 3).trans rfl; have hcz15_4 : w12.cell? ⟨gb124, 4, none⟩ = some (.int .u16 0) := (blk_cell BK124.out 4).trans rfl; have hcz15_5 : w12.cell? ⟨gb124, 5, none⟩ = some (.int .u16 0) := (blk_cell BK124.out 5).trans rfl; have hcz15_6 : w12.cell? ⟨gb124, 6, none⟩ = some (.slice none 0 0) := (blk_cell BK124.out 6).trans rfl; have hcz15_7 : w12.cell? ⟨gb124, 7, none⟩ = some (.slice none 0 0) := (blk_cell BK124.out 7).trans rfl; have hcz15_8 : w12.cell? ⟨gb124, 8, none⟩ = some (.int .i64 0) := (blk_cell BK124.out 8).trans rfl; have hcz15_9 : w12.cell? ⟨gb124, 9, none⟩ = some (.int .i64 0) := (blk_cell BK124.out 9).trans rfl; have hcz15_10 : w12.cell? ⟨gb124, 10, none⟩ = some (.int .i64 0) := (blk_cell BK124.out 10).trans rfl; have hcz15_11 : w12.cell? ⟨gb124, 11, none⟩ = some (.int .i64 0) := (blk_cell BK124.out 11).trans rfl; have hfz15_0 := blk_frozen BK124.out 0; have hfz15_1 := blk_frozen BK124.out 1; have hfz15_2 := blk_frozen BK124.out 2; have hfz15_3 := blk_frozen BK124.out 3; have hfz15_4 := blk_frozen BK124.out 4; have hfz15_5 := blk_frozen BK124.out 5; have hfz15_6 := blk_frozen BK124.out 6; have hfz15_7 := blk_frozen BK124.out 7; have hfz15_8 := blk_frozen BK124.out 8; have hfz15_9 := blk_frozen BK124.out 9; have hfz15_10 := blk_frozen BK124.out 10; have hfz15_11 := blk_frozen BK124.out 11))
    refine bodyPost_ret (results_cell_row rfl _ _ gb124 26 #[.int .i64 1, .int .i64 x5_5, .int .i64 (wrap64 (1 + t126)), .int .u16 0, .int .u16 0, .int .u16 0, .slice none 0 0, .slice none 0 0, .int .i64 0, .int .i64 0, .int .i64 0, .int .i64 0] (0, 0) _ rfl (by (with_reducible repeat (first | refine blk_drewN ?_ _ | refine blk_drew ?_ | refine blk_alloc ?_ _)); refine blk_put (cs := #[.int .i64 1, .int .i64 x5_5, .int .i64 (wrap64 (1 + t126)), .int .u16 0, .int .u16 0, .int .u16 0, .slice none 0 0, .slice none 0 0, .int .i64 0, .int .i64 0, .int .i64 0, .int .i64 0]) ?_ 11 _ rfl; (with_reducible repeat (first | refine blk_drewN ?_ _ | refine blk_drew ?_ | refine blk_alloc ?_ _)); refine blk_put (cs := #[.int .i64 1, .int .i64 x5_5, .int .i64 (wrap64 (1 + t126)), .int .u16 0, .int .u16 0, .int .u16 0, .slice none 0 0, .slice none 0 0, .int .i64 0, .int .i64 0, .int .i64 0, .int .i64 0]) ?_ 10 _ rfl; (with_reducible repeat (first | refine blk_drewN ?_ _ | refine blk_drew ?_ | refine blk_alloc ?_ _)); refine blk_put (cs := #[.int .i64 1, .int .i64 x5_5, .int .i64 (wrap64 (1 + t126)), .int .u16 0, .int .u16 0, .int .u16 0, .slice none 0 0, .slice none 0 0, .int .i64 0, .int .i64 0, .int .i64 0, .int .i64 0]) ?_ 9 _ rfl; (with_reducible repeat (first | refine blk_drewN ?_ _ | refine blk_drew ?_ | refine blk_alloc ?_ _)); refine blk_put (cs := #[.int .i64 1, .int .i64 x5_5, .int .i64 (wrap64 (1 + t126)), .int .u16 0, .int .u16 0, .int .u16 0, .slice none 0 0, .slice none 0 0, .int .i64 0, .int .i64 0, .int .i64 0, .int .i64 0]) ?_ 8 _ rfl; (with_reducible repeat (first | refine blk_drewN ?_ _ | refine blk_drew ?_ | refine blk_alloc ?_ _)); refine blk_put (cs := #[.int .i64 1, .int .i64 x5_5, .int .i64 (wrap64 (1 + t126)), .int .u16 0, .int .u16 0, .int .u16 0, .slice none 0 0, .slice none 0 0, .int .i64 0, .int .i64 0, .int .i64 0, .int .i64 0]) ?_ 7 _ rfl; (with_reducible repeat (first | refine blk_drewN ?_ _ | refine blk_drew ?_ | refine blk_alloc ?_ _)); refine blk_put (cs := #[.int .i64 1, .int .i64 x5_5, .int .i64 (wrap64 (1 + t126)), .int .u16 0, .int .u16 0, .int .u16 0, .slice none 0 0, .slice none 0 0, .int .i64 0, .int .i64 0, .int .i64 0, .int .i64 0]) ?_ 6 _ rfl; (with_reducible repeat (first | refine blk_drewN ?_ _ | refine blk_drew ?_ | refine blk_alloc ?_ _)); refine blk_put (cs := #[.int .i64 1, .int .i64 x5_5, .int .i64 (wrap64 (1 + t126)), .int .u16 0, .int .u16 0, .int .u16 0, .slice none 0 0, .slice none 0 0, .int .i64 0, .int .i64 0, .int .i64 0, .int .i64 0]) ?_ 5 _ rfl; (with_reducible repeat (first | refine blk_drewN ?_ _ | refine blk_drew ?_ | refine blk_alloc ?_ _)); refine blk_put (cs := #[.int .i64 1, .int .i64 x5_5, .int .i64 (wrap64 (1 + t126)), .int .u16 0, .int .u16 0, .int .u16 0, .slice none 0 0, .slice none 0 0, .int .i64 0, .int .i64 0, .int .i64 0, .int .i64 0]) ?_ 4 _ rfl; (with_reducible repeat (first | refine blk_drewN ?_ _ | refine blk_drew ?_ | refine blk_alloc ?_ _)); refine blk_put (cs := #[.int .i64 1, .int .i64 x5_5, .int .i64 (wrap64 (1 + t126)), .int .u16 0, .int .u16 0, .int .u16 0, .slice none 0 0, .slice none 0 0, .int .i64 0, .int .i64 0, .int .i64 0, .int .i64 0]) ?_ 3 _ rfl; (with_reducible repeat (first | refine blk_drewN ?_ _ | refine blk_drew ?_ | refine blk_alloc ?_ _)); refine blk_put (cs := #[.int .i64 1, .int .i64 x5_5, .int .i64 0, .int .u16 0, .int .u16 0, .int .u16 0, .slice none 0 0, .slice none 0 0, .int .i64 0, .int .i64 0, .int .i64 0, .int .i64 0]) ?_ 2 _ rfl; (with_reducible repeat (first | refine blk_drewN ?_ _ | refine blk_drew ?_ | refine blk_alloc ?_ _)); refine blk_put (cs := #[.int .i64 1, .int .i64 0, .int .i64 0, .int .u16 0, .int .u16 0, .int .u16 0, .slice none 0 0, .slice none 0 0, .int .i64 0, .int .i64 0, .int .i64 0, .int .i64 0]) ?_ 1 _ rfl; (with_reducible repeat (first | refine blk_drewN ?_ _ | refine blk_drew ?_ | refine blk_alloc ?_ _)); refine blk_put (cs := #[.int .i64 0, .int .i64 0, .int .i64 0, .int .u16 0, .int .u16 0, .int .u16 0, .slice none 0 0, .slice none 0 0, .int .i64 0, .int .i64 0, .int .i64 0, .int .i64 0]) ?_ 0 _ rfl; (with_reducible repeat (first | refine blk_drewN ?_ _ | refine blk_drew ?_ | refine blk_alloc ?_ _)); refine blk_far ?_ NB124_129.out _; (with_reducible repeat (first | refine blk_drewN ?_ _ | refine blk_drew ?_ | refine blk_alloc ?_ _)); refine blk_far ?_ NB124_129.out _; (with_reducible repeat (first | refine blk_drewN ?_ _ | refine blk_drew ?_ | refine blk_alloc ?_ _)); refine blk_far ?_ NB124_129.out _; (with_reducible repeat (first | refine blk_drewN ?_ _ | refine blk_drew ?_ | refine blk_alloc ?_ _)); refine blk_far ?_ NB124_129.out _; (with_reducible repeat (first | refine blk_drewN ?_ _ | refine blk_drew ?_ | refine blk_alloc ?_ _)); refine blk_far ?_ NB124_129.out _; (with_reducible repeat (first | refine blk_drewN ?_ _ | refine blk_drew ?_ | refine blk_alloc ?_ _)); refine blk_far ?_ NB124_129.out _; (with_reducible repeat (first | refine blk_drewN ?_ _ | refine blk_drew ?_ | refine blk_alloc ?_ _)); refine blk_far ?_ NB124_129.out _; (with_reducible repeat (first | refine blk_drewN ?_ _ | refine blk_drew ?_ | refine blk_alloc ?_ _)); refine blk_far ?_ NB124_129.out _; (with_reducible repeat (first | refine blk_drewN ?_ _ | refine blk_drew ?_ | refine blk_alloc ?_ _)); refine blk_far ?_ NB124_129.out _; (with_reducible repeat (first | refine blk_drewN ?_ _ | refine blk_drew ?_ | refine blk_alloc ?_ _)); refine blk_far ?_ NB124_129.out _; (with_reducible repeat (first | refine blk_drewN ?_ _ | refine blk_drew ?_ | refine blk_alloc ?_ _)); refine blk_far ?_ NB124_129.out _; (with_reducible repeat (first | refine blk_drewN ?_ _ | refine blk_drew ?_ | refine blk_alloc ?_ _)); refine blk_far ?_ NB124_129.out _; (with_reducible repeat (first | refine blk_drewN ?_ _ | refine blk_drew ?_ | refine blk_alloc ?_ _)); refine blk_far ?_ NB124_129.out _; (with_reducible repeat (first | refine blk_drewN ?_ _ | refine blk_drew ?_ | refine blk_alloc ?_ _)); refine blk_far ?_ NB124_129.out _; (with_reducible repeat (first | refine blk_drewN ?_ _ | refine blk_drew ?_ | refine blk_alloc ?_ _)); exact BK124.out) Try.underlying26 rfl (by kernel_rfl)) rfl ?_
    exact ⟨_, _, by first | rfl | (simp [errW_none, errW_some] <;> rfl) | (simp [*, errW_none, errW_some] <;> rfl), by first | exact Kd.R_nil _ _ _ _ _ | exact Kd.N_nil _ _ _ _ _ | exact Kd.V_nil _ _ _ _ _ | exact Kd.Q_nil _ _ _ _ _ | exact Kd.S_nil _ _ _ _ _, by first | exact Kd.R_nil _ _ _ _ _ | exact Kd.N_nil _ _ _ _ _ | exact Kd.V_nil _ _ _ _ _ | exact Kd.Q_nil _ _ _ _ _ | exact Kd.S_nil _ _ _ _ _, by repeat (first | (with_reducible first | exact HB.out | apply below_alloc | apply pw_below_drewN | apply below_drew1 | refine below_set ?_ GE124.out | refine below_set ?_ GE129.out) | exact HB.out)⟩
   ·
    rw [if_neg c11] at H
    have c11b0 : (t130 == 0) = false := beq_eq_false_iff_ne.mpr c11
    have c11b1 : (t130 != 0) = true := bne_iff_ne.mpr c11
    by_cases c16 : t130 = 1
    ·
     rw [if_pos c16] at H
     have c16b0 : (t130 == 1) = true := beq_iff_eq.mpr c16
     have c16b1 : (t130 != 1) = false := bne_eq_false_iff_eq.mpr c16
     clear c16
     simp only [Option.some.injEq, Prod.mk.injEq] at H
     obtain ⟨rfl, rfl, rfl, rfl, rfl, rfl, rfl, rfl, rfl, rfl, rfl, rfl⟩ := H
     go_wp2_with (first | ((with_reducible refine gate_dst (N := 7) rfl ?_); refine box_event ?hg (N := 7) ?hd (cs := #[.int .i64 0, .int .i64 0, .int .i64 0, .int .u16 0, .int .u16 0, .int .u16 0, .slice none 0 0, .slice none 0 0, .int .i64 0, .int .i64 0, .int .i64 0, .int .i64 0]) (t := 26) ?hr ?_; (case hd => rfl); (case hg => rfl); (case hr => first | (go_simp; done) | (go_simp; rfl)); intro gb129 hg w17 hbox hb; have n0_ := Aside0.mk (blk_below (g := gb124) (o := .cells #[.int .i64 0, .int .i64 0, .int .i64 0, .int .u16 0, .int .u16 0, .int .u16 0, .slice none 0 0, .slice none 0 0, .int .i64 0, .int .i64 0, .int .i64 0, .int .i64 0] 26 (0, 0)) (by (with_reducible repeat (first | refine blk_drewN ?_ _ | refine blk_drew ?_ | refine blk_alloc ?_ _)); exact BK124.out) hb); have n1_ := Aside0.mk (below_step (by repeat (first | (with_reducible first | exact HB.out | apply below_alloc | apply pw_below_drewN | apply below_drew1 | refine below_set ?_ GE124.out) | exact HB.out)) hb); have n2_ := Aside0.mk (hbox); have n3_ := Aside0.mk ((by rw [hg]; exact (below_size (by repeat (first | (with_reducible first | exact HB.out | apply below_alloc | apply pw_below_drewN | apply below_drew1 | refine below_set ?_ GE124.out) | exact HB.out))) : w.heap.size ≤ gb129)); have n4_ := Aside0.mk ((by rw [hg]; exact (below_size (by repeat (first | (with_reducible first | exact HB.out | apply below_alloc | apply pw_below_drewN | apply below_drew1 | refine below_set ?_ GE124.out) | exact HB.out))) : w.heap.size ≤ gb129)); have n5_ := Aside0.mk ((by rw [hg]; exact Nat.ne_of_lt (blk_lt (g := gb124) (o := .cells #[.int .i64 0, .int .i64 0, .int .i64 0, .int .u16 0, .int .u16 0, .int .u16 0, .slice none 0 0, .slice none 0 0, .int .i64 0, .int .i64 0, .int .i64 0, .int .i64 0] 26 (0, 0)) (by (with_reducible repeat (first | refine blk_drewN ?_ _ | refine blk_drew ?_ | refine blk_alloc ?_ _)); exact BK124.out)) : gb124 ≠ gb129)); have n6_ := Aside0.mk ((by rw [hg]; exact Nat.ne_of_gt (blk_lt (g := gb124) (o := .cells #[.int .i64 0, .int .i64 0, .int .i64 0, .int .u16 0, .int .u16 0, .int .u16 0, .slice none 0 0, .slice none 0 0, .int .i64 0, .int .i64 0, .int .i64 0, .int .i64 0] 26 (0, 0)) (by (with_reducible repeat (first | refine blk_drewN ?_ _ | refine blk_drew ?_ | refine blk_alloc ?_ _)); exact BK124.out)) : gb129 ≠ gb124)); clear BK124; clear HB; have BK124 := n0_; have HB := n1_; have BK129 := n2_; have GW129 := n3_; have GE129 := n4_; have NB124_129 := n5_; have NB129_124 := n6_; clear n0_ n1_ n2_ n3_ n4_ n5_ n6_; clear hb hbox hg; have hnb18 := NB129_124.out; have hnc18 := NB124_129.out; have hcz19_0 : w17.cell? ⟨gb129, 0, none⟩ = some (.int .i64 0) := (blk_cell BK129.out 0).trans rfl; have hcz19_1 : w17.cell? ⟨gb129, 1, none⟩ = some (.int .i64 0) := (blk_cell BK129.out 1).trans rfl; have hcz19_2 : w17.cell? ⟨gb129, 2, none⟩ = some (.int .i64 0) := (blk_cell BK129.out 2).trans rfl; have hcz19_3 : w17.cell? ⟨gb129, 3, none⟩ = some (.int .u16 0) := (blk_cell BK129.out 3).trans rfl; have hcz19_4 : w17.cell? ⟨gb129, 4, none⟩ = some (.int .u16 0) := (blk_cell BK129.out 4).trans rfl; have hcz19_5 : w17.cell? ⟨gb129, 5, none⟩ = some (.int .u16 0) := (blk_cell BK129.out 5).trans rfl; have hcz19_6 : w17.cell? ⟨gb129, 6, none⟩ = some (.slice none 0 0) := (blk_cell BK129.out 6).trans rfl; have hcz19_7 : w17.cell? ⟨gb129, 7, none⟩ = some (.slice none 0 0) := (blk_cell BK129.out 7).trans rfl; have hcz19_8 : w17.cell? ⟨gb129, 8, none⟩ = some (.int .i64 0) := (blk_cell BK129.out 8).trans rfl; have hcz19_9 : w17.cell? ⟨gb129, 9, none⟩ = some (.int .i64 0) := (blk_cell BK129.out 9).trans rfl; have hcz19_10 : w17.cell? ⟨gb129, 10, none⟩ = some (.int .i64 0) := (blk_cell BK129.out 10).trans rfl; have hcz19_11 : w17.cell? ⟨gb129, 11, none⟩ = some (.int .i64 0) := (blk_cell BK129.out 11).trans rfl; have hfz19_0 := blk_frozen BK129.out 0; have hfz19_1 := blk_frozen BK129.out 1; have hfz19_2 := blk_frozen BK129.out 2; have hfz19_3 := blk_frozen BK129.out 3; have hfz19_4 := blk_frozen BK129.out 4; have hfz19_5 := blk_frozen BK129.out 5; have hfz19_6 := blk_frozen BK129.out 6; have hfz19_7 := blk_frozen BK129.out 7; have hfz19_8 := blk_frozen BK129.out 8; have hfz19_9 := blk_frozen BK129.out 9; have hfz19_10 := blk_frozen BK129.out 10; have hfz19_11 := blk_frozen BK129.out 11) | ((with_reducible refine gate_callee (f := 16) rfl ?_); refine goesL_ (some 22) rfl rfl Try.func16 (by kernel_rfl) rfl #[.int .i64 a0, .int .i64 16] rfl (by (try simp only [List.map_toArray, List.map_cons, List.map_nil]); first | done | rfl | (simp only [List.length_drop, List.length_take]; rfl)) ?_; (with_reducible refine (busbarlaw0_Within.calls a0 16 t130 _ A10.out).mono ?_); rintro e w' ⟨rfl, ⟨nd, rfl⟩⟩; refine ⟨_, rfl, ?_⟩; have hcz20_0 : w17.cell? ⟨gb124, 0, none⟩ = some (.int .i64 0) := (blk_cell BK124.out 0).trans rfl; have hcz20_1 : w17.cell? ⟨gb124, 1, none⟩ = some (.int .i64 0) := (blk_cell BK124.out 1).trans rfl; have hcz20_2 : w17.cell? ⟨gb124, 2, none⟩ = some (.int .i64 0) := (blk_cell BK124.out 2).trans rfl; have hcz20_3 : w17.cell? ⟨gb124, 3, none⟩ = some (.int .u16 0) := (blk_cell BK124.out 3).trans rfl; have hcz20_4 : w17.cell? ⟨gb124, 4, none⟩ = some (.int .u16 0) := (blk_cell BK124.out 4).trans rfl; have hcz20_5 : w17.cell? ⟨gb124, 5, none⟩ = some (.int .u16 0) := (blk_cell BK124.out 5).trans rfl; have hcz20_6 : w17.cell? ⟨gb124, 6, none⟩ = some (.slice none 0 0) := (blk_cell BK124.out 6).trans rfl; have hcz20_7 : w17.cell? ⟨gb124, 7, none⟩ = some (.slice none 0 0) := (blk_cell BK124.out 7).trans rfl; have hcz20_8 : w17.cell? ⟨gb124, 8, none⟩ = some (.int .i64 0) := (blk_cell BK124.out 8).trans rfl; have hcz20_9 : w17.cell? ⟨gb124, 9, none⟩ = some (.int .i64 0) := (blk_cell BK124.out 9).trans rfl; have hcz20_10 : w17.cell? ⟨gb124, 10, none⟩ = some (.int .i64 0) := (blk_cell BK124.out 10).trans rfl; have hcz20_11 : w17.cell? ⟨gb124, 11, none⟩ = some (.int .i64 0) := (blk_cell BK124.out 11).trans rfl; have hfz20_0 := blk_frozen BK124.out 0; have hfz20_1 := blk_frozen BK124.out 1; have hfz20_2 := blk_frozen BK124.out 2; have hfz20_3 := blk_frozen BK124.out 3; have hfz20_4 := blk_frozen BK124.out 4; have hfz20_5 := blk_frozen BK124.out 5; have hfz20_6 := blk_frozen BK124.out 6; have hfz20_7 := blk_frozen BK124.out 7; have hfz20_8 := blk_frozen BK124.out 8; have hfz20_9 := blk_frozen BK124.out 9; have hfz20_10 := blk_frozen BK124.out 10; have hfz20_11 := blk_frozen BK124.out 11))
     refine bodyPost_ret (results_cell_row rfl _ _ gb124 26 #[.int .i64 2, .int .i64 x5_5, .int .i64 (wrap64 (1 + t126)), .int .u16 0, .int .u16 0, .int .u16 0, .slice none 0 0, .slice none 0 0, .int .i64 0, .int .i64 0, .int .i64 0, .int .i64 0] (0, 0) _ rfl (by (with_reducible repeat (first | refine blk_drewN ?_ _ | refine blk_drew ?_ | refine blk_alloc ?_ _)); refine blk_put (cs := #[.int .i64 2, .int .i64 x5_5, .int .i64 (wrap64 (1 + t126)), .int .u16 0, .int .u16 0, .int .u16 0, .slice none 0 0, .slice none 0 0, .int .i64 0, .int .i64 0, .int .i64 0, .int .i64 0]) ?_ 11 _ rfl; (with_reducible repeat (first | refine blk_drewN ?_ _ | refine blk_drew ?_ | refine blk_alloc ?_ _)); refine blk_put (cs := #[.int .i64 2, .int .i64 x5_5, .int .i64 (wrap64 (1 + t126)), .int .u16 0, .int .u16 0, .int .u16 0, .slice none 0 0, .slice none 0 0, .int .i64 0, .int .i64 0, .int .i64 0, .int .i64 0]) ?_ 10 _ rfl; (with_reducible repeat (first | refine blk_drewN ?_ _ | refine blk_drew ?_ | refine blk_alloc ?_ _)); refine blk_put (cs := #[.int .i64 2, .int .i64 x5_5, .int .i64 (wrap64 (1 + t126)), .int .u16 0, .int .u16 0, .int .u16 0, .slice none 0 0, .slice none 0 0, .int .i64 0, .int .i64 0, .int .i64 0, .int .i64 0]) ?_ 9 _ rfl; (with_reducible repeat (first | refine blk_drewN ?_ _ | refine blk_drew ?_ | refine blk_alloc ?_ _)); refine blk_put (cs := #[.int .i64 2, .int .i64 x5_5, .int .i64 (wrap64 (1 + t126)), .int .u16 0, .int .u16 0, .int .u16 0, .slice none 0 0, .slice none 0 0, .int .i64 0, .int .i64 0, .int .i64 0, .int .i64 0]) ?_ 8 _ rfl; (with_reducible repeat (first | refine blk_drewN ?_ _ | refine blk_drew ?_ | refine blk_alloc ?_ _)); refine blk_put (cs := #[.int .i64 2, .int .i64 x5_5, .int .i64 (wrap64 (1 + t126)), .int .u16 0, .int .u16 0, .int .u16 0, .slice none 0 0, .slice none 0 0, .int .i64 0, .int .i64 0, .int .i64 0, .int .i64 0]) ?_ 7 _ rfl; (with_reducible repeat (first | refine blk_drewN ?_ _ | refine blk_drew ?_ | refine blk_alloc ?_ _)); refine blk_put (cs := #[.int .i64 2, .int .i64 x5_5, .int .i64 (wrap64 (1 + t126)), .int .u16 0, .int .u16 0, .int .u16 0, .slice none 0 0, .slice none 0 0, .int .i64 0, .int .i64 0, .int .i64 0, .int .i64 0]) ?_ 6 _ rfl; (with_reducible repeat (first | refine blk_drewN ?_ _ | refine blk_drew ?_ | refine blk_alloc ?_ _)); refine blk_put (cs := #[.int .i64 2, .int .i64 x5_5, .int .i64 (wrap64 (1 + t126)), .int .u16 0, .int .u16 0, .int .u16 0, .slice none 0 0, .slice none 0 0, .int .i64 0, .int .i64 0, .int .i64 0, .int .i64 0]) ?_ 5 _ rfl; (with_reducible repeat (first | refine blk_drewN ?_ _ | refine blk_drew ?_ | refine blk_alloc ?_ _)); refine blk_put (cs := #[.int .i64 2, .int .i64 x5_5, .int .i64 (wrap64 (1 + t126)), .int .u16 0, .int .u16 0, .int .u16 0, .slice none 0 0, .slice none 0 0, .int .i64 0, .int .i64 0, .int .i64 0, .int .i64 0]) ?_ 4 _ rfl; (with_reducible repeat (first | refine blk_drewN ?_ _ | refine blk_drew ?_ | refine blk_alloc ?_ _)); refine blk_put (cs := #[.int .i64 2, .int .i64 x5_5, .int .i64 (wrap64 (1 + t126)), .int .u16 0, .int .u16 0, .int .u16 0, .slice none 0 0, .slice none 0 0, .int .i64 0, .int .i64 0, .int .i64 0, .int .i64 0]) ?_ 3 _ rfl; (with_reducible repeat (first | refine blk_drewN ?_ _ | refine blk_drew ?_ | refine blk_alloc ?_ _)); refine blk_put (cs := #[.int .i64 2, .int .i64 x5_5, .int .i64 0, .int .u16 0, .int .u16 0, .int .u16 0, .slice none 0 0, .slice none 0 0, .int .i64 0, .int .i64 0, .int .i64 0, .int .i64 0]) ?_ 2 _ rfl; (with_reducible repeat (first | refine blk_drewN ?_ _ | refine blk_drew ?_ | refine blk_alloc ?_ _)); refine blk_put (cs := #[.int .i64 2, .int .i64 0, .int .i64 0, .int .u16 0, .int .u16 0, .int .u16 0, .slice none 0 0, .slice none 0 0, .int .i64 0, .int .i64 0, .int .i64 0, .int .i64 0]) ?_ 1 _ rfl; (with_reducible repeat (first | refine blk_drewN ?_ _ | refine blk_drew ?_ | refine blk_alloc ?_ _)); refine blk_put (cs := #[.int .i64 0, .int .i64 0, .int .i64 0, .int .u16 0, .int .u16 0, .int .u16 0, .slice none 0 0, .slice none 0 0, .int .i64 0, .int .i64 0, .int .i64 0, .int .i64 0]) ?_ 0 _ rfl; (with_reducible repeat (first | refine blk_drewN ?_ _ | refine blk_drew ?_ | refine blk_alloc ?_ _)); refine blk_far ?_ NB124_129.out _; (with_reducible repeat (first | refine blk_drewN ?_ _ | refine blk_drew ?_ | refine blk_alloc ?_ _)); refine blk_far ?_ NB124_129.out _; (with_reducible repeat (first | refine blk_drewN ?_ _ | refine blk_drew ?_ | refine blk_alloc ?_ _)); refine blk_far ?_ NB124_129.out _; (with_reducible repeat (first | refine blk_drewN ?_ _ | refine blk_drew ?_ | refine blk_alloc ?_ _)); refine blk_far ?_ NB124_129.out _; (with_reducible repeat (first | refine blk_drewN ?_ _ | refine blk_drew ?_ | refine blk_alloc ?_ _)); refine blk_far ?_ NB124_129.out _; (with_reducible repeat (first | refine blk_drewN ?_ _ | refine blk_drew ?_ | refine blk_alloc ?_ _)); refine blk_far ?_ NB124_129.out _; (with_reducible repeat (first | refine blk_drewN ?_ _ | refine blk_drew ?_ | refine blk_alloc ?_ _)); refine blk_far ?_ NB124_129.out _; (with_reducible repeat (first | refine blk_drewN ?_ _ | refine blk_drew ?_ | refine blk_alloc ?_ _)); refine blk_far ?_ NB124_129.out _; (with_reducible repeat (first | refine blk_drewN ?_ _ | refine blk_drew ?_ | refine blk_alloc ?_ _)); refine blk_far ?_ NB124_129.out _; (with_reducible repeat (first | refine blk_drewN ?_ _ | refine blk_drew ?_ | refine blk_alloc ?_ _)); refine blk_far ?_ NB124_129.out _; (with_reducible repeat (first | refine blk_drewN ?_ _ | refine blk_drew ?_ | refine blk_alloc ?_ _)); refine blk_far ?_ NB124_129.out _; (with_reducible repeat (first | refine blk_drewN ?_ _ | refine blk_drew ?_ | refine blk_alloc ?_ _)); refine blk_far ?_ NB124_129.out _; (with_reducible repeat (first | refine blk_drewN ?_ _ | refine blk_drew ?_ | refine blk_alloc ?_ _)); refine blk_far ?_ NB124_129.out _; (with_reducible repeat (first | refine blk_drewN ?_ _ | refine blk_drew ?_ | refine blk_alloc ?_ _)); refine blk_far ?_ NB124_129.out _; (with_reducible repeat (first | refine blk_drewN ?_ _ | refine blk_drew ?_ | refine blk_alloc ?_ _)); exact BK124.out) Try.underlying26 rfl (by kernel_rfl)) rfl ?_
     exact ⟨_, _, by first | rfl | (simp [errW_none, errW_some] <;> rfl) | (simp [*, errW_none, errW_some] <;> rfl), by first | exact Kd.R_nil _ _ _ _ _ | exact Kd.N_nil _ _ _ _ _ | exact Kd.V_nil _ _ _ _ _ | exact Kd.Q_nil _ _ _ _ _ | exact Kd.S_nil _ _ _ _ _, by first | exact Kd.R_nil _ _ _ _ _ | exact Kd.N_nil _ _ _ _ _ | exact Kd.V_nil _ _ _ _ _ | exact Kd.Q_nil _ _ _ _ _ | exact Kd.S_nil _ _ _ _ _, by repeat (first | (with_reducible first | exact HB.out | apply below_alloc | apply pw_below_drewN | apply below_drew1 | refine below_set ?_ GE124.out | refine below_set ?_ GE129.out) | exact HB.out)⟩
    ·
     rw [if_neg c16] at H
     have c16b0 : (t130 == 1) = false := beq_eq_false_iff_ne.mpr c16
     have c16b1 : (t130 != 1) = true := bne_iff_ne.mpr c16
     have HC21 := Aside0.mk H
     clear H
     go_upto_if 39 with (first | ((with_reducible refine gate_dst (N := 7) rfl ?_); refine box_event ?hg (N := 7) ?hd (cs := #[.int .i64 0, .int .i64 0, .int .i64 0, .int .u16 0, .int .u16 0, .int .u16 0, .slice none 0 0, .slice none 0 0, .int .i64 0, .int .i64 0, .int .i64 0, .int .i64 0]) (t := 26) ?hr ?_; (case hd => rfl); (case hg => rfl); (case hr => first | (go_simp; done) | (go_simp; rfl)); intro gb129 hg w22 hbox hb; have n0_ := Aside0.mk (blk_below (g := gb124) (o := .cells #[.int .i64 0, .int .i64 0, .int .i64 0, .int .u16 0, .int .u16 0, .int .u16 0, .slice none 0 0, .slice none 0 0, .int .i64 0, .int .i64 0, .int .i64 0, .int .i64 0] 26 (0, 0)) (by (with_reducible repeat (first | refine blk_drewN ?_ _ | refine blk_drew ?_ | refine blk_alloc ?_ _)); exact BK124.out) hb); have n1_ := Aside0.mk (below_step (by repeat (first | (with_reducible first | exact HB.out | apply below_alloc | apply pw_below_drewN | apply below_drew1 | refine below_set ?_ GE124.out) | exact HB.out)) hb); have n2_ := Aside0.mk (hbox); have n3_ := Aside0.mk ((by rw [hg]; exact (below_size (by repeat (first | (with_reducible first | exact HB.out | apply below_alloc | apply pw_below_drewN | apply below_drew1 | refine below_set ?_ GE124.out) | exact HB.out))) : w.heap.size ≤ gb129)); have n4_ := Aside0.mk ((by rw [hg]; exact (below_size (by repeat (first | (with_reducible first | exact HB.out | apply below_alloc | apply pw_below_drewN | apply below_drew1 | refine below_set ?_ GE124.out) | exact HB.out))) : w.heap.size ≤ gb129)); have n5_ := Aside0.mk ((by rw [hg]; exact Nat.ne_of_lt (blk_lt (g := gb124) (o := .cells #[.int .i64 0, .int .i64 0, .int .i64 0, .int .u16 0, .int .u16 0, .int .u16 0, .slice none 0 0, .slice none 0 0, .int .i64 0, .int .i64 0, .int .i64 0, .int .i64 0] 26 (0, 0)) (by (with_reducible repeat (first | refine blk_drewN ?_ _ | refine blk_drew ?_ | refine blk_alloc ?_ _)); exact BK124.out)) : gb124 ≠ gb129)); have n6_ := Aside0.mk ((by rw [hg]; exact Nat.ne_of_gt (blk_lt (g := gb124) (o := .cells #[.int .i64 0, .int .i64 0, .int .i64 0, .int .u16 0, .int .u16 0, .int .u16 0, .slice none 0 0, .slice none 0 0, .int .i64 0, .int .i64 0, .int .i64 0, .int .i64 0] 26 (0, 0)) (by (with_reducible repeat (first | refine blk_drewN ?_ _ | refine blk_drew ?_ | refine blk_alloc ?_ _)); exact BK124.out)) : gb129 ≠ gb124)); clear BK124; clear HB; have BK124 := n0_; have HB := n1_; have BK129 := n2_; have GW129 := n3_; have GE129 := n4_; have NB124_129 := n5_; have NB129_124 := n6_; clear n0_ n1_ n2_ n3_ n4_ n5_ n6_; clear hb hbox hg; have hnb23 := NB129_124.out; have hnc23 := NB124_129.out; have hcz24_0 : w22.cell? ⟨gb129, 0, none⟩ = some (.int .i64 0) := (blk_cell BK129.out 0).trans rfl; have hcz24_1 : w22.cell? ⟨gb129, 1, none⟩ = some (.int .i64 0) := (blk_cell BK129.out 1).trans rfl; have hcz24_2 : w22.cell? ⟨gb129, 2, none⟩ = some (.int .i64 0) := (blk_cell BK129.out 2).trans rfl; have hcz24_3 : w22.cell? ⟨gb129, 3, none⟩ = some (.int .u16 0) := (blk_cell BK129.out 3).trans rfl; have hcz24_4 : w22.cell? ⟨gb129, 4, none⟩ = some (.int .u16 0) := (blk_cell BK129.out 4).trans rfl; have hcz24_5 : w22.cell? ⟨gb129, 5, none⟩ = some (.int .u16 0) := (blk_cell BK129.out 5).trans rfl; have hcz24_6 : w22.cell? ⟨gb129, 6, none⟩ = some (.slice none 0 0) := (blk_cell BK129.out 6).trans rfl; have hcz24_7 : w22.cell? ⟨gb129, 7, none⟩ = some (.slice none 0 0) := (blk_cell BK129.out 7).trans rfl; have hcz24_8 : w22.cell? ⟨gb129, 8, none⟩ = some (.int .i64 0) := (blk_cell BK129.out 8).trans rfl; have hcz24_9 : w22.cell? ⟨gb129, 9, none⟩ = some (.int .i64 0) := (blk_cell BK129.out 9).trans rfl; have hcz24_10 : w22.cell? ⟨gb129, 10, none⟩ = some (.int .i64 0) := (blk_cell BK129.out 10).trans rfl; have hcz24_11 : w22.cell? ⟨gb129, 11, none⟩ = some (.int .i64 0) := (blk_cell BK129.out 11).trans rfl; have hfz24_0 := blk_frozen BK129.out 0; have hfz24_1 := blk_frozen BK129.out 1; have hfz24_2 := blk_frozen BK129.out 2; have hfz24_3 := blk_frozen BK129.out 3; have hfz24_4 := blk_frozen BK129.out 4; have hfz24_5 := blk_frozen BK129.out 5; have hfz24_6 := blk_frozen BK129.out 6; have hfz24_7 := blk_frozen BK129.out 7; have hfz24_8 := blk_frozen BK129.out 8; have hfz24_9 := blk_frozen BK129.out 9; have hfz24_10 := blk_frozen BK129.out 10; have hfz24_11 := blk_frozen BK129.out 11) | ((with_reducible refine gate_callee (f := 16) rfl ?_); refine goesL_ (some 22) rfl rfl Try.func16 (by kernel_rfl) rfl #[.int .i64 a0, .int .i64 16] rfl (by (try simp only [List.map_toArray, List.map_cons, List.map_nil]); first | done | rfl | (simp only [List.length_drop, List.length_take]; rfl)) ?_; (with_reducible refine (busbarlaw0_Within.calls a0 16 t130 _ A10.out).mono ?_); rintro e w' ⟨rfl, ⟨nd, rfl⟩⟩; refine ⟨_, rfl, ?_⟩))
     (try simp only [Act.put, List.setIfInBounds_toArray, List.set_cons_zero, List.set_cons_succ])
     go_cut [39] (fun v39 wc => ∃ (kq : Nat) (x39_20 : Bool), v39 = .bool x39_20 ∧ Aside0 (busbarlaw0_Ask.j1 kq a0 a1 (wrap64 (1 + t126)) t130 x39_20 0 x5_5 0 0 0 0 0 0 0 0 = some (r1, r2, r3, r4, r5, r6, r7, r8, r9, r10, r11, r12)) ∧ Aside0 (kq ≤ kj5) ∧ Aside0 (wc.heap[gb124]? = some (.cells #[.int .i64 0, .int .i64 0, .int .i64 0, .int .u16 0, .int .u16 0, .int .u16 0, (.slice none 0 0), (.slice none 0 0), .int .i64 0, .int .i64 0, .int .i64 0, .int .i64 0] 26 (0, 0))) ∧ Aside0 (wc.heap[gb129]? = some (.cells #[.int .i64 0, .int .i64 x5_5, .int .i64 0, .int .u16 0, .int .u16 0, .int .u16 0, (.slice none 0 0), (.slice none 0 0), .int .i64 0, .int .i64 0, .int .i64 0, .int .i64 0] 26 (0, 0))) ∧ Aside0 (Below w.heap.size w wc))
     case first =>
      have H := HC21.out
      clear HC21
      by_cases c25 : t130 = 2
      ·
       rw [if_pos c25] at H
       have c25b0 : (t130 == 2) = true := beq_iff_eq.mpr c25
       have c25b1 : (t130 != 2) = false := bne_eq_false_iff_eq.mpr c25
       clear c25
       (first | rw [c25b0] | (simp only [i64_w, i32_w]; rw [c25b0]) | skip)
       have H' := Aside0.mk H
       clear H
       go_wp2
       go_meet
       case rel => exact ⟨_, ((t130 == 2)), (by first | rfl | (simp; done) | (simp [*]; done)), H', ⟨by have := HJ5.out; first | omega | exact Nat.le_refl _⟩, ⟨by (with_reducible repeat (first | refine blk_drewN ?_ _ | refine blk_drew ?_ | refine blk_alloc ?_ _)); refine blk_far ?_ NB124_129.out _; (with_reducible repeat (first | refine blk_drewN ?_ _ | refine blk_drew ?_ | refine blk_alloc ?_ _)); refine blk_far ?_ NB124_129.out _; (with_reducible repeat (first | refine blk_drewN ?_ _ | refine blk_drew ?_ | refine blk_alloc ?_ _)); refine blk_far ?_ NB124_129.out _; (with_reducible repeat (first | refine blk_drewN ?_ _ | refine blk_drew ?_ | refine blk_alloc ?_ _)); refine blk_far ?_ NB124_129.out _; (with_reducible repeat (first | refine blk_drewN ?_ _ | refine blk_drew ?_ | refine blk_alloc ?_ _)); refine blk_far ?_ NB124_129.out _; (with_reducible repeat (first | refine blk_drewN ?_ _ | refine blk_drew ?_ | refine blk_alloc ?_ _)); refine blk_far ?_ NB124_129.out _; (with_reducible repeat (first | refine blk_drewN ?_ _ | refine blk_drew ?_ | refine blk_alloc ?_ _)); refine blk_far ?_ NB124_129.out _; (with_reducible repeat (first | refine blk_drewN ?_ _ | refine blk_drew ?_ | refine blk_alloc ?_ _)); refine blk_far ?_ NB124_129.out _; (with_reducible repeat (first | refine blk_drewN ?_ _ | refine blk_drew ?_ | refine blk_alloc ?_ _)); refine blk_far ?_ NB124_129.out _; (with_reducible repeat (first | refine blk_drewN ?_ _ | refine blk_drew ?_ | refine blk_alloc ?_ _)); refine blk_far ?_ NB124_129.out _; (with_reducible repeat (first | refine blk_drewN ?_ _ | refine blk_drew ?_ | refine blk_alloc ?_ _)); refine blk_far ?_ NB124_129.out _; (with_reducible repeat (first | refine blk_drewN ?_ _ | refine blk_drew ?_ | refine blk_alloc ?_ _)); refine blk_far ?_ NB124_129.out _; (with_reducible repeat (first | refine blk_drewN ?_ _ | refine blk_drew ?_ | refine blk_alloc ?_ _)); exact BK124.out⟩, ⟨by (with_reducible repeat (first | refine blk_drewN ?_ _ | refine blk_drew ?_ | refine blk_alloc ?_ _)); refine blk_put (cs := #[.int .i64 0, .int .i64 x5_5, .int .i64 0, .int .u16 0, .int .u16 0, .int .u16 0, .slice none 0 0, .slice none 0 0, .int .i64 0, .int .i64 0, .int .i64 0, .int .i64 0]) ?_ 11 _ rfl; (with_reducible repeat (first | refine blk_drewN ?_ _ | refine blk_drew ?_ | refine blk_alloc ?_ _)); refine blk_put (cs := #[.int .i64 0, .int .i64 x5_5, .int .i64 0, .int .u16 0, .int .u16 0, .int .u16 0, .slice none 0 0, .slice none 0 0, .int .i64 0, .int .i64 0, .int .i64 0, .int .i64 0]) ?_ 10 _ rfl; (with_reducible repeat (first | refine blk_drewN ?_ _ | refine blk_drew ?_ | refine blk_alloc ?_ _)); refine blk_put (cs := #[.int .i64 0, .int .i64 x5_5, .int .i64 0, .int .u16 0, .int .u16 0, .int .u16 0, .slice none 0 0, .slice none 0 0, .int .i64 0, .int .i64 0, .int .i64 0, .int .i64 0]) ?_ 9 _ rfl; (with_reducible repeat (first | refine blk_drewN ?_ _ | refine blk_drew ?_ | refine blk_alloc ?_ _)); refine blk_put (cs := #[.int .i64 0, .int .i64 x5_5, .int .i64 0, .int .u16 0, .int .u16 0, .int .u16 0, .slice none 0 0, .slice none 0 0, .int .i64 0, .int .i64 0, .int .i64 0, .int .i64 0]) ?_ 8 _ rfl; (with_reducible repeat (first | refine blk_drewN ?_ _ | refine blk_drew ?_ | refine blk_alloc ?_ _)); refine blk_put (cs := #[.int .i64 0, .int .i64 x5_5, .int .i64 0, .int .u16 0, .int .u16 0, .int .u16 0, .slice none 0 0, .slice none 0 0, .int .i64 0, .int .i64 0, .int .i64 0, .int .i64 0]) ?_ 7 _ rfl; (with_reducible repeat (first | refine blk_drewN ?_ _ | refine blk_drew ?_ | refine blk_alloc ?_ _)); refine blk_put (cs := #[.int .i64 0, .int .i64 x5_5, .int .i64 0, .int .u16 0, .int .u16 0, .int .u16 0, .slice none 0 0, .slice none 0 0, .int .i64 0, .int .i64 0, .int .i64 0, .int .i64 0]) ?_ 6 _ rfl; (with_reducible repeat (first | refine blk_drewN ?_ _ | refine blk_drew ?_ | refine blk_alloc ?_ _)); refine blk_put (cs := #[.int .i64 0, .int .i64 x5_5, .int .i64 0, .int .u16 0, .int .u16 0, .int .u16 0, .slice none 0 0, .slice none 0 0, .int .i64 0, .int .i64 0, .int .i64 0, .int .i64 0]) ?_ 5 _ rfl; (with_reducible repeat (first | refine blk_drewN ?_ _ | refine blk_drew ?_ | refine blk_alloc ?_ _)); refine blk_put (cs := #[.int .i64 0, .int .i64 x5_5, .int .i64 0, .int .u16 0, .int .u16 0, .int .u16 0, .slice none 0 0, .slice none 0 0, .int .i64 0, .int .i64 0, .int .i64 0, .int .i64 0]) ?_ 4 _ rfl; (with_reducible repeat (first | refine blk_drewN ?_ _ | refine blk_drew ?_ | refine blk_alloc ?_ _)); refine blk_put (cs := #[.int .i64 0, .int .i64 x5_5, .int .i64 0, .int .u16 0, .int .u16 0, .int .u16 0, .slice none 0 0, .slice none 0 0, .int .i64 0, .int .i64 0, .int .i64 0, .int .i64 0]) ?_ 3 _ rfl; (with_reducible repeat (first | refine blk_drewN ?_ _ | refine blk_drew ?_ | refine blk_alloc ?_ _)); refine blk_put (cs := #[.int .i64 0, .int .i64 x5_5, .int .i64 0, .int .u16 0, .int .u16 0, .int .u16 0, .slice none 0 0, .slice none 0 0, .int .i64 0, .int .i64 0, .int .i64 0, .int .i64 0]) ?_ 2 _ rfl; (with_reducible repeat (first | refine blk_drewN ?_ _ | refine blk_drew ?_ | refine blk_alloc ?_ _)); refine blk_put (cs := #[.int .i64 0, .int .i64 0, .int .i64 0, .int .u16 0, .int .u16 0, .int .u16 0, .slice none 0 0, .slice none 0 0, .int .i64 0, .int .i64 0, .int .i64 0, .int .i64 0]) ?_ 1 _ rfl; (with_reducible repeat (first | refine blk_drewN ?_ _ | refine blk_drew ?_ | refine blk_alloc ?_ _)); refine blk_put (cs := #[.int .i64 0, .int .i64 0, .int .i64 0, .int .u16 0, .int .u16 0, .int .u16 0, .slice none 0 0, .slice none 0 0, .int .i64 0, .int .i64 0, .int .i64 0, .int .i64 0]) ?_ 0 _ rfl; (with_reducible repeat (first | refine blk_drewN ?_ _ | refine blk_drew ?_ | refine blk_alloc ?_ _)); exact BK129.out⟩, ⟨by repeat (first | (with_reducible first | exact HB.out | apply below_alloc | apply pw_below_drewN | apply below_drew1 | refine below_set ?_ GE124.out | refine below_set ?_ GE129.out) | exact HB.out)⟩⟩
      ·
       rw [if_neg c25] at H
       have c25b0 : (t130 == 2) = false := beq_eq_false_iff_ne.mpr c25
       have c25b1 : (t130 != 2) = true := bne_iff_ne.mpr c25
       (first | rw [c25b0] | (simp only [i64_w, i32_w]; rw [c25b0]) | skip)
       by_cases c26 : t130 = 3
       ·
        rw [if_pos c26] at H
        have c26b0 : (t130 == 3) = true := beq_iff_eq.mpr c26
        have c26b1 : (t130 != 3) = false := bne_eq_false_iff_eq.mpr c26
        clear c26
        have H' := Aside0.mk H
        clear H
        go_wp2
        go_meet
        case rel => exact ⟨_, ((t130 == 3)), (by first | rfl | (simp; done) | (simp [*]; done)), H', ⟨by have := HJ5.out; first | omega | exact Nat.le_refl _⟩, ⟨by (with_reducible repeat (first | refine blk_drewN ?_ _ | refine blk_drew ?_ | refine blk_alloc ?_ _)); refine blk_far ?_ NB124_129.out _; (with_reducible repeat (first | refine blk_drewN ?_ _ | refine blk_drew ?_ | refine blk_alloc ?_ _)); refine blk_far ?_ NB124_129.out _; (with_reducible repeat (first | refine blk_drewN ?_ _ | refine blk_drew ?_ | refine blk_alloc ?_ _)); refine blk_far ?_ NB124_129.out _; (with_reducible repeat (first | refine blk_drewN ?_ _ | refine blk_drew ?_ | refine blk_alloc ?_ _)); refine blk_far ?_ NB124_129.out _; (with_reducible repeat (first | refine blk_drewN ?_ _ | refine blk_drew ?_ | refine blk_alloc ?_ _)); refine blk_far ?_ NB124_129.out _; (with_reducible repeat (first | refine blk_drewN ?_ _ | refine blk_drew ?_ | refine blk_alloc ?_ _)); refine blk_far ?_ NB124_129.out _; (with_reducible repeat (first | refine blk_drewN ?_ _ | refine blk_drew ?_ | refine blk_alloc ?_ _)); refine blk_far ?_ NB124_129.out _; (with_reducible repeat (first | refine blk_drewN ?_ _ | refine blk_drew ?_ | refine blk_alloc ?_ _)); refine blk_far ?_ NB124_129.out _; (with_reducible repeat (first | refine blk_drewN ?_ _ | refine blk_drew ?_ | refine blk_alloc ?_ _)); refine blk_far ?_ NB124_129.out _; (with_reducible repeat (first | refine blk_drewN ?_ _ | refine blk_drew ?_ | refine blk_alloc ?_ _)); refine blk_far ?_ NB124_129.out _; (with_reducible repeat (first | refine blk_drewN ?_ _ | refine blk_drew ?_ | refine blk_alloc ?_ _)); refine blk_far ?_ NB124_129.out _; (with_reducible repeat (first | refine blk_drewN ?_ _ | refine blk_drew ?_ | refine blk_alloc ?_ _)); refine blk_far ?_ NB124_129.out _; (with_reducible repeat (first | refine blk_drewN ?_ _ | refine blk_drew ?_ | refine blk_alloc ?_ _)); exact BK124.out⟩, ⟨by (with_reducible repeat (first | refine blk_drewN ?_ _ | refine blk_drew ?_ | refine blk_alloc ?_ _)); refine blk_put (cs := #[.int .i64 0, .int .i64 x5_5, .int .i64 0, .int .u16 0, .int .u16 0, .int .u16 0, .slice none 0 0, .slice none 0 0, .int .i64 0, .int .i64 0, .int .i64 0, .int .i64 0]) ?_ 11 _ rfl; (with_reducible repeat (first | refine blk_drewN ?_ _ | refine blk_drew ?_ | refine blk_alloc ?_ _)); refine blk_put (cs := #[.int .i64 0, .int .i64 x5_5, .int .i64 0, .int .u16 0, .int .u16 0, .int .u16 0, .slice none 0 0, .slice none 0 0, .int .i64 0, .int .i64 0, .int .i64 0, .int .i64 0]) ?_ 10 _ rfl; (with_reducible repeat (first | refine blk_drewN ?_ _ | refine blk_drew ?_ | refine blk_alloc ?_ _)); refine blk_put (cs := #[.int .i64 0, .int .i64 x5_5, .int .i64 0, .int .u16 0, .int .u16 0, .int .u16 0, .slice none 0 0, .slice none 0 0, .int .i64 0, .int .i64 0, .int .i64 0, .int .i64 0]) ?_ 9 _ rfl; (with_reducible repeat (first | refine blk_drewN ?_ _ | refine blk_drew ?_ | refine blk_alloc ?_ _)); refine blk_put (cs := #[.int .i64 0, .int .i64 x5_5, .int .i64 0, .int .u16 0, .int .u16 0, .int .u16 0, .slice none 0 0, .slice none 0 0, .int .i64 0, .int .i64 0, .int .i64 0, .int .i64 0]) ?_ 8 _ rfl; (with_reducible repeat (first | refine blk_drewN ?_ _ | refine blk_drew ?_ | refine blk_alloc ?_ _)); refine blk_put (cs := #[.int .i64 0, .int .i64 x5_5, .int .i64 0, .int .u16 0, .int .u16 0, .int .u16 0, .slice none 0 0, .slice none 0 0, .int .i64 0, .int .i64 0, .int .i64 0, .int .i64 0]) ?_ 7 _ rfl; (with_reducible repeat (first | refine blk_drewN ?_ _ | refine blk_drew ?_ | refine blk_alloc ?_ _)); refine blk_put (cs := #[.int .i64 0, .int .i64 x5_5, .int .i64 0, .int .u16 0, .int .u16 0, .int .u16 0, .slice none 0 0, .slice none 0 0, .int .i64 0, .int .i64 0, .int .i64 0, .int .i64 0]) ?_ 6 _ rfl; (with_reducible repeat (first | refine blk_drewN ?_ _ | refine blk_drew ?_ | refine blk_alloc ?_ _)); refine blk_put (cs := #[.int .i64 0, .int .i64 x5_5, .int .i64 0, .int .u16 0, .int .u16 0, .int .u16 0, .slice none 0 0, .slice none 0 0, .int .i64 0, .int .i64 0, .int .i64 0, .int .i64 0]) ?_ 5 _ rfl; (with_reducible repeat (first | refine blk_drewN ?_ _ | refine blk_drew ?_ | refine blk_alloc ?_ _)); refine blk_put (cs := #[.int .i64 0, .int .i64 x5_5, .int .i64 0, .int .u16 0, .int .u16 0, .int .u16 0, .slice none 0 0, .slice none 0 0, .int .i64 0, .int .i64 0, .int .i64 0, .int .i64 0]) ?_ 4 _ rfl; (with_reducible repeat (first | refine blk_drewN ?_ _ | refine blk_drew ?_ | refine blk_alloc ?_ _)); refine blk_put (cs := #[.int .i64 0, .int .i64 x5_5, .int .i64 0, .int .u16 0, .int .u16 0, .int .u16 0, .slice none 0 0, .slice none 0 0, .int .i64 0, .int .i64 0, .int .i64 0, .int .i64 0]) ?_ 3 _ rfl; (with_reducible repeat (first | refine blk_drewN ?_ _ | refine blk_drew ?_ | refine blk_alloc ?_ _)); refine blk_put (cs := #[.int .i64 0, .int .i64 x5_5, .int .i64 0, .int .u16 0, .int .u16 0, .int .u16 0, .slice none 0 0, .slice none 0 0, .int .i64 0, .int .i64 0, .int .i64 0, .int .i64 0]) ?_ 2 _ rfl; (with_reducible repeat (first | refine blk_drewN ?_ _ | refine blk_drew ?_ | refine blk_alloc ?_ _)); refine blk_put (cs := #[.int .i64 0, .int .i64 0, .int .i64 0, .int .u16 0, .int .u16 0, .int .u16 0, .slice none 0 0, .slice none 0 0, .int .i64 0, .int .i64 0, .int .i64 0, .int .i64 0]) ?_ 1 _ rfl; (with_reducible repeat (first | refine blk_drewN ?_ _ | refine blk_drew ?_ | refine blk_alloc ?_ _)); refine blk_put (cs := #[.int .i64 0, .int .i64 0, .int .i64 0, .int .u16 0, .int .u16 0, .int .u16 0, .slice none 0 0, .slice none 0 0, .int .i64 0, .int .i64 0, .int .i64 0, .int .i64 0]) ?_ 0 _ rfl; (with_reducible repeat (first | refine blk_drewN ?_ _ | refine blk_drew ?_ | refine blk_alloc ?_ _)); exact BK129.out⟩, ⟨by repeat (first | (with_reducible first | exact HB.out | apply below_alloc | apply pw_below_drewN | apply below_drew1 | refine below_set ?_ GE124.out | refine below_set ?_ GE129.out) | exact HB.out)⟩⟩
       ·
        rw [if_neg c26] at H
        have c26b0 : (t130 == 3) = false := beq_eq_false_iff_ne.mpr c26
        have c26b1 : (t130 != 3) = true := bne_iff_ne.mpr c26
        have H' := Aside0.mk H
        clear H
        go_wp2
        go_meet
        case rel => exact ⟨_, ((t130 == 4)), (by first | rfl | (simp; done) | (simp [*]; done)), H', ⟨by have := HJ5.out; first | omega | exact Nat.le_refl _⟩, ⟨by (with_reducible repeat (first | refine blk_drewN ?_ _ | refine blk_drew ?_ | refine blk_alloc ?_ _)); refine blk_far ?_ NB124_129.out _; (with_reducible repeat (first | refine blk_drewN ?_ _ | refine blk_drew ?_ | refine blk_alloc ?_ _)); refine blk_far ?_ NB124_129.out _; (with_reducible repeat (first | refine blk_drewN ?_ _ | refine blk_drew ?_ | refine blk_alloc ?_ _)); refine blk_far ?_ NB124_129.out _; (with_reducible repeat (first | refine blk_drewN ?_ _ | refine blk_drew ?_ | refine blk_alloc ?_ _)); refine blk_far ?_ NB124_129.out _; (with_reducible repeat (first | refine blk_drewN ?_ _ | refine blk_drew ?_ | refine blk_alloc ?_ _)); refine blk_far ?_ NB124_129.out _; (with_reducible repeat (first | refine blk_drewN ?_ _ | refine blk_drew ?_ | refine blk_alloc ?_ _)); refine blk_far ?_ NB124_129.out _; (with_reducible repeat (first | refine blk_drewN ?_ _ | refine blk_drew ?_ | refine blk_alloc ?_ _)); refine blk_far ?_ NB124_129.out _; (with_reducible repeat (first | refine blk_drewN ?_ _ | refine blk_drew ?_ | refine blk_alloc ?_ _)); refine blk_far ?_ NB124_129.out _; (with_reducible repeat (first | refine blk_drewN ?_ _ | refine blk_drew ?_ | refine blk_alloc ?_ _)); refine blk_far ?_ NB124_129.out _; (with_reducible repeat (first | refine blk_drewN ?_ _ | refine blk_drew ?_ | refine blk_alloc ?_ _)); refine blk_far ?_ NB124_129.out _; (with_reducible repeat (first | refine blk_drewN ?_ _ | refine blk_drew ?_ | refine blk_alloc ?_ _)); refine blk_far ?_ NB124_129.out _; (with_reducible repeat (first | refine blk_drewN ?_ _ | refine blk_drew ?_ | refine blk_alloc ?_ _)); refine blk_far ?_ NB124_129.out _; (with_reducible repeat (first | refine blk_drewN ?_ _ | refine blk_drew ?_ | refine blk_alloc ?_ _)); exact BK124.out⟩, ⟨by (with_reducible repeat (first | refine blk_drewN ?_ _ | refine blk_drew ?_ | refine blk_alloc ?_ _)); refine blk_put (cs := #[.int .i64 0, .int .i64 x5_5, .int .i64 0, .int .u16 0, .int .u16 0, .int .u16 0, .slice none 0 0, .slice none 0 0, .int .i64 0, .int .i64 0, .int .i64 0, .int .i64 0]) ?_ 11 _ rfl; (with_reducible repeat (first | refine blk_drewN ?_ _ | refine blk_drew ?_ | refine blk_alloc ?_ _)); refine blk_put (cs := #[.int .i64 0, .int .i64 x5_5, .int .i64 0, .int .u16 0, .int .u16 0, .int .u16 0, .slice none 0 0, .slice none 0 0, .int .i64 0, .int .i64 0, .int .i64 0, .int .i64 0]) ?_ 10 _ rfl; (with_reducible repeat (first | refine blk_drewN ?_ _ | refine blk_drew ?_ | refine blk_alloc ?_ _)); refine blk_put (cs := #[.int .i64 0, .int .i64 x5_5, .int .i64 0, .int .u16 0, .int .u16 0, .int .u16 0, .slice none 0 0, .slice none 0 0, .int .i64 0, .int .i64 0, .int .i64 0, .int .i64 0]) ?_ 9 _ rfl; (with_reducible repeat (first | refine blk_drewN ?_ _ | refine blk_drew ?_ | refine blk_alloc ?_ _)); refine blk_put (cs := #[.int .i64 0, .int .i64 x5_5, .int .i64 0, .int .u16 0, .int .u16 0, .int .u16 0, .slice none 0 0, .slice none 0 0, .int .i64 0, .int .i64 0, .int .i64 0, .int .i64 0]) ?_ 8 _ rfl; (with_reducible repeat (first | refine blk_drewN ?_ _ | refine blk_drew ?_ | refine blk_alloc ?_ _)); refine blk_put (cs := #[.int .i64 0, .int .i64 x5_5, .int .i64 0, .int .u16 0, .int .u16 0, .int .u16 0, .slice none 0 0, .slice none 0 0, .int .i64 0, .int .i64 0, .int .i64 0, .int .i64 0]) ?_ 7 _ rfl; (with_reducible repeat (first | refine blk_drewN ?_ _ | refine blk_drew ?_ | refine blk_alloc ?_ _)); refine blk_put (cs := #[.int .i64 0, .int .i64 x5_5, .int .i64 0, .int .u16 0, .int .u16 0, .int .u16 0, .slice none 0 0, .slice none 0 0, .int .i64 0, .int .i64 0, .int .i64 0, .int .i64 0]) ?_ 6 _ rfl; (with_reducible repeat (first | refine blk_drewN ?_ _ | refine blk_drew ?_ | refine blk_alloc ?_ _)); refine blk_put (cs := #[.int .i64 0, .int .i64 x5_5, .int .i64 0, .int .u16 0, .int .u16 0, .int .u16 0, .slice none 0 0, .slice none 0 0, .int .i64 0, .int .i64 0, .int .i64 0, .int .i64 0]) ?_ 5 _ rfl; (with_reducible repeat (first | refine blk_drewN ?_ _ | refine blk_drew ?_ | refine blk_alloc ?_ _)); refine blk_put (cs := #[.int .i64 0, .int .i64 x5_5, .int .i64 0, .int .u16 0, .int .u16 0, .int .u16 0, .slice none 0 0, .slice none 0 0, .int .i64 0, .int .i64 0, .int .i64 0, .int .i64 0]) ?_ 4 _ rfl; (with_reducible repeat (first | refine blk_drewN ?_ _ | refine blk_drew ?_ | refine blk_alloc ?_ _)); refine blk_put (cs := #[.int .i64 0, .int .i64 x5_5, .int .i64 0, .int .u16 0, .int .u16 0, .int .u16 0, .slice none 0 0, .slice none 0 0, .int .i64 0, .int .i64 0, .int .i64 0, .int .i64 0]) ?_ 3 _ rfl; (with_reducible repeat (first | refine blk_drewN ?_ _ | refine blk_drew ?_ | refine blk_alloc ?_ _)); refine blk_put (cs := #[.int .i64 0, .int .i64 x5_5, .int .i64 0, .int .u16 0, .int .u16 0, .int .u16 0, .slice none 0 0, .slice none 0 0, .int .i64 0, .int .i64 0, .int .i64 0, .int .i64 0]) ?_ 2 _ rfl; (with_reducible repeat (first | refine blk_drewN ?_ _ | refine blk_drew ?_ | refine blk_alloc ?_ _)); refine blk_put (cs := #[.int .i64 0, .int .i64 0, .int .i64 0, .int .u16 0, .int .u16 0, .int .u16 0, .slice none 0 0, .slice none 0 0, .int .i64 0, .int .i64 0, .int .i64 0, .int .i64 0]) ?_ 1 _ rfl; (with_reducible repeat (first | refine blk_drewN ?_ _ | refine blk_drew ?_ | refine blk_alloc ?_ _)); refine blk_put (cs := #[.int .i64 0, .int .i64 0, .int .i64 0, .int .u16 0, .int .u16 0, .int .u16 0, .slice none 0 0, .slice none 0 0, .int .i64 0, .int .i64 0, .int .i64 0, .int .i64 0]) ?_ 0 _ rfl; (with_reducible repeat (first | refine blk_drewN ?_ _ | refine blk_drew ?_ | refine blk_alloc ?_ _)); exact BK129.out⟩, ⟨by repeat (first | (with_reducible first | exact HB.out | apply below_alloc | apply pw_below_drewN | apply below_drew1 | refine below_set ?_ GE124.out | refine below_set ?_ GE129.out) | exact HB.out)⟩⟩
     case rest =>
      clear HC21
      try clear c1
      try clear c2
      try clear p2
      try clear c3
      try clear p6
      try clear c8
      try clear c8b0
      try clear c8b1
      try clear c11
      try clear c11b0
      try clear c11b1
      try clear c13
      try clear c15
      try clear c16
      try clear c16b0
      try clear c16b1
      try clear c18
      try clear c23
      try clear c25
      try clear c25b0
      try clear c25b1
      try clear c26
      try clear c26b0
      try clear c26b1
      try clear hcz14_0
      try clear hcz14_1
      try clear hcz14_10
      try clear hcz14_11
      try clear hcz14_2
      try clear hcz14_3
      try clear hcz14_4
      try clear hcz14_5
      try clear hcz14_6
      try clear hcz14_7
      try clear hcz14_8
      try clear hcz14_9
      try clear hcz15_0
      try clear hcz15_1
      try clear hcz15_10
      try clear hcz15_11
      try clear hcz15_2
      try clear hcz15_3
      try clear hcz15_4
      try clear hcz15_5
      try clear hcz15_6
      try clear hcz15_7
      try clear hcz15_8
      try clear hcz15_9
      try clear hcz19_0
      try clear hcz19_1
      try clear hcz19_10
      try clear hcz19_11
      try clear hcz19_2
      try clear hcz19_3
      try clear hcz19_4
      try clear hcz19_5
      try clear hcz19_6
      try clear hcz19_7
      try clear hcz19_8
      try clear hcz19_9
      try clear hcz20_0
      try clear hcz20_1
      try clear hcz20_10
      try clear hcz20_11
      try clear hcz20_2
      try clear hcz20_3
      try clear hcz20_4
      try clear hcz20_5
      try clear hcz20_6
      try clear hcz20_7
      try clear hcz20_8
      try clear hcz20_9
      try clear hcz24_0
      try clear hcz24_1
      try clear hcz24_10
      try clear hcz24_11
      try clear hcz24_2
      try clear hcz24_3
      try clear hcz24_4
      try clear hcz24_5
      try clear hcz24_6
      try clear hcz24_7
      try clear hcz24_8
      try clear hcz24_9
      try clear hfz14_0
      try clear hfz14_1
      try clear hfz14_10
      try clear hfz14_11
      try clear hfz14_2
      try clear hfz14_3
      try clear hfz14_4
      try clear hfz14_5
      try clear hfz14_6
      try clear hfz14_7
      try clear hfz14_8
      try clear hfz14_9
      try clear hfz15_0
      try clear hfz15_1
      try clear hfz15_10
      try clear hfz15_11
      try clear hfz15_2
      try clear hfz15_3
      try clear hfz15_4
      try clear hfz15_5
      try clear hfz15_6
      try clear hfz15_7
      try clear hfz15_8
      try clear hfz15_9
      try clear hfz19_0
      try clear hfz19_1
      try clear hfz19_10
      try clear hfz19_11
      try clear hfz19_2
      try clear hfz19_3
      try clear hfz19_4
      try clear hfz19_5
      try clear hfz19_6
      try clear hfz19_7
      try clear hfz19_8
      try clear hfz19_9
      try clear hfz20_0
      try clear hfz20_1
      try clear hfz20_10
      try clear hfz20_11
      try clear hfz20_2
      try clear hfz20_3
      try clear hfz20_4
      try clear hfz20_5
      try clear hfz20_6
      try clear hfz20_7
      try clear hfz20_8
      try clear hfz20_9
      try clear hfz24_0
      try clear hfz24_1
      try clear hfz24_10
      try clear hfz24_11
      try clear hfz24_2
      try clear hfz24_3
      try clear hfz24_4
      try clear hfz24_5
      try clear hfz24_6
      try clear hfz24_7
      try clear hfz24_8
      try clear hfz24_9
      try clear p2
      try clear p6
      obtain ⟨kq, x39_20, rfl, HA, HJ20, BK124, BK129, HB⟩ := hcut
      cases kq with
      | zero => exact absurd HA.out (by simp [busbarlaw0_Ask.j1])
      | succ kj20 =>
       have H := HA.out
       clear HA
       simp only [busbarlaw0_Ask.j1] at H
       by_cases c27 : x39_20 = true
       ·
        subst c27
        have H1 : (some (3, x5_5, (wrap64 (1 + t126)), 0, 0, 0, ([] : List Bool), ([] : List Int), 0, 0, 0, 0)) = some (r1, r2, r3, r4, r5, r6, r7, r8, r9, r10, r11, r12) := by rw [if_pos rfl] at H; exact H
        clear H
        have H := H1
        clear H1
        simp only [Option.some.injEq, Prod.mk.injEq] at H
        obtain ⟨rfl, rfl, rfl, rfl, rfl, rfl, rfl, rfl, rfl, rfl, rfl, rfl⟩ := H
        have hnb28 := NB129_124.out
        have hnc28 := NB124_129.out
        have hcz29_0 : wc.cell? ⟨gb129, 0, none⟩ = some (.int .i64 0) := (blk_cell BK129.out 0).trans rfl
        have hcz29_1 : wc.cell? ⟨gb129, 1, none⟩ = some (.int .i64 x5_5) := (blk_cell BK129.out 1).trans rfl
        have hcz29_2 : wc.cell? ⟨gb129, 2, none⟩ = some (.int .i64 0) := (blk_cell BK129.out 2).trans rfl
        have hcz29_3 : wc.cell? ⟨gb129, 3, none⟩ = some (.int .u16 0) := (blk_cell BK129.out 3).trans rfl
        have hcz29_4 : wc.cell? ⟨gb129, 4, none⟩ = some (.int .u16 0) := (blk_cell BK129.out 4).trans rfl
        have hcz29_5 : wc.cell? ⟨gb129, 5, none⟩ = some (.int .u16 0) := (blk_cell BK129.out 5).trans rfl
        have hcz29_6 : wc.cell? ⟨gb129, 6, none⟩ = some (.slice none 0 0) := (blk_cell BK129.out 6).trans rfl
        have hcz29_7 : wc.cell? ⟨gb129, 7, none⟩ = some (.slice none 0 0) := (blk_cell BK129.out 7).trans rfl
        have hcz29_8 : wc.cell? ⟨gb129, 8, none⟩ = some (.int .i64 0) := (blk_cell BK129.out 8).trans rfl
        have hcz29_9 : wc.cell? ⟨gb129, 9, none⟩ = some (.int .i64 0) := (blk_cell BK129.out 9).trans rfl
        have hcz29_10 : wc.cell? ⟨gb129, 10, none⟩ = some (.int .i64 0) := (blk_cell BK129.out 10).trans rfl
        have hcz29_11 : wc.cell? ⟨gb129, 11, none⟩ = some (.int .i64 0) := (blk_cell BK129.out 11).trans rfl
        have hfz29_0 := blk_frozen BK129.out 0
        have hfz29_1 := blk_frozen BK129.out 1
        have hfz29_2 := blk_frozen BK129.out 2
        have hfz29_3 := blk_frozen BK129.out 3
        have hfz29_4 := blk_frozen BK129.out 4
        have hfz29_5 := blk_frozen BK129.out 5
        have hfz29_6 := blk_frozen BK129.out 6
        have hfz29_7 := blk_frozen BK129.out 7
        have hfz29_8 := blk_frozen BK129.out 8
        have hfz29_9 := blk_frozen BK129.out 9
        have hfz29_10 := blk_frozen BK129.out 10
        have hfz29_11 := blk_frozen BK129.out 11
        have hcz30_0 : wc.cell? ⟨gb124, 0, none⟩ = some (.int .i64 0) := (blk_cell BK124.out 0).trans rfl
        have hcz30_1 : wc.cell? ⟨gb124, 1, none⟩ = some (.int .i64 0) := (blk_cell BK124.out 1).trans rfl
        have hcz30_2 : wc.cell? ⟨gb124, 2, none⟩ = some (.int .i64 0) := (blk_cell BK124.out 2).trans rfl
        have hcz30_3 : wc.cell? ⟨gb124, 3, none⟩ = some (.int .u16 0) := (blk_cell BK124.out 3).trans rfl
        have hcz30_4 : wc.cell? ⟨gb124, 4, none⟩ = some (.int .u16 0) := (blk_cell BK124.out 4).trans rfl
        have hcz30_5 : wc.cell? ⟨gb124, 5, none⟩ = some (.int .u16 0) := (blk_cell BK124.out 5).trans rfl
        have hcz30_6 : wc.cell? ⟨gb124, 6, none⟩ = some (.slice none 0 0) := (blk_cell BK124.out 6).trans rfl
        have hcz30_7 : wc.cell? ⟨gb124, 7, none⟩ = some (.slice none 0 0) := (blk_cell BK124.out 7).trans rfl
        have hcz30_8 : wc.cell? ⟨gb124, 8, none⟩ = some (.int .i64 0) := (blk_cell BK124.out 8).trans rfl
        have hcz30_9 : wc.cell? ⟨gb124, 9, none⟩ = some (.int .i64 0) := (blk_cell BK124.out 9).trans rfl
        have hcz30_10 : wc.cell? ⟨gb124, 10, none⟩ = some (.int .i64 0) := (blk_cell BK124.out 10).trans rfl
        have hcz30_11 : wc.cell? ⟨gb124, 11, none⟩ = some (.int .i64 0) := (blk_cell BK124.out 11).trans rfl
        have hfz30_0 := blk_frozen BK124.out 0
        have hfz30_1 := blk_frozen BK124.out 1
        have hfz30_2 := blk_frozen BK124.out 2
        have hfz30_3 := blk_frozen BK124.out 3
        have hfz30_4 := blk_frozen BK124.out 4
        have hfz30_5 := blk_frozen BK124.out 5
        have hfz30_6 := blk_frozen BK124.out 6
        have hfz30_7 := blk_frozen BK124.out 7
        have hfz30_8 := blk_frozen BK124.out 8
        have hfz30_9 := blk_frozen BK124.out 9
        have hfz30_10 := blk_frozen BK124.out 10
        have hfz30_11 := blk_frozen BK124.out 11
        go_wp2
        refine bodyPost_ret (results_cell_row rfl _ _ gb124 26 #[.int .i64 3, .int .i64 x5_5, .int .i64 (wrap64 (1 + t126)), .int .u16 0, .int .u16 0, .int .u16 0, .slice none 0 0, .slice none 0 0, .int .i64 0, .int .i64 0, .int .i64 0, .int .i64 0] (0, 0) _ rfl (by (with_reducible repeat (first | refine blk_drewN ?_ _ | refine blk_drew ?_ | refine blk_alloc ?_ _)); refine blk_put (cs := #[.int .i64 3, .int .i64 x5_5, .int .i64 (wrap64 (1 + t126)), .int .u16 0, .int .u16 0, .int .u16 0, .slice none 0 0, .slice none 0 0, .int .i64 0, .int .i64 0, .int .i64 0, .int .i64 0]) ?_ 11 _ rfl; (with_reducible repeat (first | refine blk_drewN ?_ _ | refine blk_drew ?_ | refine blk_alloc ?_ _)); refine blk_put (cs := #[.int .i64 3, .int .i64 x5_5, .int .i64 (wrap64 (1 + t126)), .int .u16 0, .int .u16 0, .int .u16 0, .slice none 0 0, .slice none 0 0, .int .i64 0, .int .i64 0, .int .i64 0, .int .i64 0]) ?_ 10 _ rfl; (with_reducible repeat (first | refine blk_drewN ?_ _ | refine blk_drew ?_ | refine blk_alloc ?_ _)); refine blk_put (cs := #[.int .i64 3, .int .i64 x5_5, .int .i64 (wrap64 (1 + t126)), .int .u16 0, .int .u16 0, .int .u16 0, .slice none 0 0, .slice none 0 0, .int .i64 0, .int .i64 0, .int .i64 0, .int .i64 0]) ?_ 9 _ rfl; (with_reducible repeat (first | refine blk_drewN ?_ _ | refine blk_drew ?_ | refine blk_alloc ?_ _)); refine blk_put (cs := #[.int .i64 3, .int .i64 x5_5, .int .i64 (wrap64 (1 + t126)), .int .u16 0, .int .u16 0, .int .u16 0, .slice none 0 0, .slice none 0 0, .int .i64 0, .int .i64 0, .int .i64 0, .int .i64 0]) ?_ 8 _ rfl; (with_reducible repeat (first | refine blk_drewN ?_ _ | refine blk_drew ?_ | refine blk_alloc ?_ _)); refine blk_put (cs := #[.int .i64 3, .int .i64 x5_5, .int .i64 (wrap64 (1 + t126)), .int .u16 0, .int .u16 0, .int .u16 0, .slice none 0 0, .slice none 0 0, .int .i64 0, .int .i64 0, .int .i64 0, .int .i64 0]) ?_ 7 _ rfl; (with_reducible repeat (first | refine blk_drewN ?_ _ | refine blk_drew ?_ | refine blk_alloc ?_ _)); refine blk_put (cs := #[.int .i64 3, .int .i64 x5_5, .int .i64 (wrap64 (1 + t126)), .int .u16 0, .int .u16 0, .int .u16 0, .slice none 0 0, .slice none 0 0, .int .i64 0, .int .i64 0, .int .i64 0, .int .i64 0]) ?_ 6 _ rfl; (with_reducible repeat (first | refine blk_drewN ?_ _ | refine blk_drew ?_ | refine blk_alloc ?_ _)); refine blk_put (cs := #[.int .i64 3, .int .i64 x5_5, .int .i64 (wrap64 (1 + t126)), .int .u16 0, .int .u16 0, .int .u16 0, .slice none 0 0, .slice none 0 0, .int .i64 0, .int .i64 0, .int .i64 0, .int .i64 0]) ?_ 5 _ rfl; (with_reducible repeat (first | refine blk_drewN ?_ _ | refine blk_drew ?_ | refine blk_alloc ?_ _)); refine blk_put (cs := #[.int .i64 3, .int .i64 x5_5, .int .i64 (wrap64 (1 + t126)), .int .u16 0, .int .u16 0, .int .u16 0, .slice none 0 0, .slice none 0 0, .int .i64 0, .int .i64 0, .int .i64 0, .int .i64 0]) ?_ 4 _ rfl; (with_reducible repeat (first | refine blk_drewN ?_ _ | refine blk_drew ?_ | refine blk_alloc ?_ _)); refine blk_put (cs := #[.int .i64 3, .int .i64 x5_5, .int .i64 (wrap64 (1 + t126)), .int .u16 0, .int .u16 0, .int .u16 0, .slice none 0 0, .slice none 0 0, .int .i64 0, .int .i64 0, .int .i64 0, .int .i64 0]) ?_ 3 _ rfl; (with_reducible repeat (first | refine blk_drewN ?_ _ | refine blk_drew ?_ | refine blk_alloc ?_ _)); refine blk_put (cs := #[.int .i64 3, .int .i64 x5_5, .int .i64 0, .int .u16 0, .int .u16 0, .int .u16 0, .slice none 0 0, .slice none 0 0, .int .i64 0, .int .i64 0, .int .i64 0, .int .i64 0]) ?_ 2 _ rfl; (with_reducible repeat (first | refine blk_drewN ?_ _ | refine blk_drew ?_ | refine blk_alloc ?_ _)); refine blk_put (cs := #[.int .i64 3, .int .i64 0, .int .i64 0, .int .u16 0, .int .u16 0, .int .u16 0, .slice none 0 0, .slice none 0 0, .int .i64 0, .int .i64 0, .int .i64 0, .int .i64 0]) ?_ 1 _ rfl; (with_reducible repeat (first | refine blk_drewN ?_ _ | refine blk_drew ?_ | refine blk_alloc ?_ _)); refine blk_put (cs := #[.int .i64 0, .int .i64 0, .int .i64 0, .int .u16 0, .int .u16 0, .int .u16 0, .slice none 0 0, .slice none 0 0, .int .i64 0, .int .i64 0, .int .i64 0, .int .i64 0]) ?_ 0 _ rfl; (with_reducible repeat (first | refine blk_drewN ?_ _ | refine blk_drew ?_ | refine blk_alloc ?_ _)); refine blk_far ?_ NB124_129.out _; (with_reducible repeat (first | refine blk_drewN ?_ _ | refine blk_drew ?_ | refine blk_alloc ?_ _)); refine blk_far ?_ NB124_129.out _; (with_reducible repeat (first | refine blk_drewN ?_ _ | refine blk_drew ?_ | refine blk_alloc ?_ _)); exact BK124.out) Try.underlying26 rfl (by kernel_rfl)) rfl ?_
        exact ⟨_, _, by first | rfl | (simp [errW_none, errW_some] <;> rfl) | (simp [*, errW_none, errW_some] <;> rfl), by first | exact Kd.R_nil _ _ _ _ _ | exact Kd.N_nil _ _ _ _ _ | exact Kd.V_nil _ _ _ _ _ | exact Kd.Q_nil _ _ _ _ _ | exact Kd.S_nil _ _ _ _ _, by first | exact Kd.R_nil _ _ _ _ _ | exact Kd.N_nil _ _ _ _ _ | exact Kd.V_nil _ _ _ _ _ | exact Kd.Q_nil _ _ _ _ _ | exact Kd.S_nil _ _ _ _ _, by repeat (first | (with_reducible first | exact HB.out | apply below_alloc | apply pw_below_drewN | apply below_drew1 | refine below_set ?_ GE124.out | refine below_set ?_ GE129.out) | exact HB.out)⟩
       ·
        replace c27 := Bool.eq_false_iff.mpr c27
        subst c27
        have H1 : (if t130 = 5 then (some (4, x5_5, (wrap64 (1 + t126)), 0, 0, 0, ([] : List Bool), ([] : List Int), 0, 0, 0, 0)) else (if t130 = 6 then ((busbarlaw0_Within.f a1 2).bind fun t131 => (some (5, x5_5, 0, IntKind.u16.wrap (t131), 0, 0, ([] : List Bool), ([] : List Int), 0, 0, 0, 0))) else (if t130 = 7 then (busbarlaw0_Ask.j2 kj20 a0 a1 (wrap64 (1 + t126)) t130 (t130 == 7) 0 x5_5 0 0 0 0 0 0 0 0) else (if t130 = 8 then (busbarlaw0_Ask.j2 kj20 a0 a1 (wrap64 (1 + t126)) t130 (t130 == 8) 0 x5_5 0 0 0 0 0 0 0 0) else (busbarlaw0_Ask.j2 kj20 a0 a1 (wrap64 (1 + t126)) t130 (t130 == 9) 0 x5_5 0 0 0 0 0 0 0 0))))) = some (r1, r2, r3, r4, r5, r6, r7, r8, r9, r10, r11, r12) := by rw [if_neg (show ¬ (false = true) by decide)] at H; exact H
        clear H
        have H := H1
        clear H1
        by_cases c31 : t130 = 5
        ·
         rw [if_pos c31] at H
         have c31b0 : (t130 == 5) = true := beq_iff_eq.mpr c31
         have c31b1 : (t130 != 5) = false := bne_eq_false_iff_eq.mpr c31
         clear c31
         simp only [Option.some.injEq, Prod.mk.injEq] at H
         obtain ⟨rfl, rfl, rfl, rfl, rfl, rfl, rfl, rfl, rfl, rfl, rfl, rfl⟩ := H
         have hnb32 := NB129_124.out
         have hnc32 := NB124_129.out
         have hcz33_0 : wc.cell? ⟨gb129, 0, none⟩ = some (.int .i64 0) := (blk_cell BK129.out 0).trans rfl
         have hcz33_1 : wc.cell? ⟨gb129, 1, none⟩ = some (.int .i64 x5_5) := (blk_cell BK129.out 1).trans rfl
         have hcz33_2 : wc.cell? ⟨gb129, 2, none⟩ = some (.int .i64 0) := (blk_cell BK129.out 2).trans rfl
         have hcz33_3 : wc.cell? ⟨gb129, 3, none⟩ = some (.int .u16 0) := (blk_cell BK129.out 3).trans rfl
         have hcz33_4 : wc.cell? ⟨gb129, 4, none⟩ = some (.int .u16 0) := (blk_cell BK129.out 4).trans rfl
         have hcz33_5 : wc.cell? ⟨gb129, 5, none⟩ = some (.int .u16 0) := (blk_cell BK129.out 5).trans rfl
         have hcz33_6 : wc.cell? ⟨gb129, 6, none⟩ = some (.slice none 0 0) := (blk_cell BK129.out 6).trans rfl
         have hcz33_7 : wc.cell? ⟨gb129, 7, none⟩ = some (.slice none 0 0) := (blk_cell BK129.out 7).trans rfl
         have hcz33_8 : wc.cell? ⟨gb129, 8, none⟩ = some (.int .i64 0) := (blk_cell BK129.out 8).trans rfl
         have hcz33_9 : wc.cell? ⟨gb129, 9, none⟩ = some (.int .i64 0) := (blk_cell BK129.out 9).trans rfl
         have hcz33_10 : wc.cell? ⟨gb129, 10, none⟩ = some (.int .i64 0) := (blk_cell BK129.out 10).trans rfl
         have hcz33_11 : wc.cell? ⟨gb129, 11, none⟩ = some (.int .i64 0) := (blk_cell BK129.out 11).trans rfl
         have hfz33_0 := blk_frozen BK129.out 0
         have hfz33_1 := blk_frozen BK129.out 1
         have hfz33_2 := blk_frozen BK129.out 2
         have hfz33_3 := blk_frozen BK129.out 3
         have hfz33_4 := blk_frozen BK129.out 4
         have hfz33_5 := blk_frozen BK129.out 5
         have hfz33_6 := blk_frozen BK129.out 6
         have hfz33_7 := blk_frozen BK129.out 7
         have hfz33_8 := blk_frozen BK129.out 8
         have hfz33_9 := blk_frozen BK129.out 9
         have hfz33_10 := blk_frozen BK129.out 10
         have hfz33_11 := blk_frozen BK129.out 11
         have hcz34_0 : wc.cell? ⟨gb124, 0, none⟩ = some (.int .i64 0) := (blk_cell BK124.out 0).trans rfl
         have hcz34_1 : wc.cell? ⟨gb124, 1, none⟩ = some (.int .i64 0) := (blk_cell BK124.out 1).trans rfl
         have hcz34_2 : wc.cell? ⟨gb124, 2, none⟩ = some (.int .i64 0) := (blk_cell BK124.out 2).trans rfl
         have hcz34_3 : wc.cell? ⟨gb124, 3, none⟩ = some (.int .u16 0) := (blk_cell BK124.out 3).trans rfl
         have hcz34_4 : wc.cell? ⟨gb124, 4, none⟩ = some (.int .u16 0) := (blk_cell BK124.out 4).trans rfl
         have hcz34_5 : wc.cell? ⟨gb124, 5, none⟩ = some (.int .u16 0) := (blk_cell BK124.out 5).trans rfl
         have hcz34_6 : wc.cell? ⟨gb124, 6, none⟩ = some (.slice none 0 0) := (blk_cell BK124.out 6).trans rfl
         have hcz34_7 : wc.cell? ⟨gb124, 7, none⟩ = some (.slice none 0 0) := (blk_cell BK124.out 7).trans rfl
         have hcz34_8 : wc.cell? ⟨gb124, 8, none⟩ = some (.int .i64 0) := (blk_cell BK124.out 8).trans rfl
         have hcz34_9 : wc.cell? ⟨gb124, 9, none⟩ = some (.int .i64 0) := (blk_cell BK124.out 9).trans rfl
         have hcz34_10 : wc.cell? ⟨gb124, 10, none⟩ = some (.int .i64 0) := (blk_cell BK124.out 10).trans rfl
         have hcz34_11 : wc.cell? ⟨gb124, 11, none⟩ = some (.int .i64 0) := (blk_cell BK124.out 11).trans rfl
         have hfz34_0 := blk_frozen BK124.out 0
         have hfz34_1 := blk_frozen BK124.out 1
         have hfz34_2 := blk_frozen BK124.out 2
         have hfz34_3 := blk_frozen BK124.out 3
         have hfz34_4 := blk_frozen BK124.out 4
         have hfz34_5 := blk_frozen BK124.out 5
         have hfz34_6 := blk_frozen BK124.out 6
         have hfz34_7 := blk_frozen BK124.out 7
         have hfz34_8 := blk_frozen BK124.out 8
         have hfz34_9 := blk_frozen BK124.out 9
         have hfz34_10 := blk_frozen BK124.out 10
         have hfz34_11 := blk_frozen BK124.out 11
         go_wp2
         refine bodyPost_ret (results_cell_row rfl _ _ gb124 26 #[.int .i64 4, .int .i64 x5_5, .int .i64 (wrap64 (1 + t126)), .int .u16 0, .int .u16 0, .int .u16 0, .slice none 0 0, .slice none 0 0, .int .i64 0, .int .i64 0, .int .i64 0, .int .i64 0] (0, 0) _ rfl (by (with_reducible repeat (first | refine blk_drewN ?_ _ | refine blk_drew ?_ | refine blk_alloc ?_ _)); refine blk_put (cs := #[.int .i64 4, .int .i64 x5_5, .int .i64 (wrap64 (1 + t126)), .int .u16 0, .int .u16 0, .int .u16 0, .slice none 0 0, .slice none 0 0, .int .i64 0, .int .i64 0, .int .i64 0, .int .i64 0]) ?_ 11 _ rfl; (with_reducible repeat (first | refine blk_drewN ?_ _ | refine blk_drew ?_ | refine blk_alloc ?_ _)); refine blk_put (cs := #[.int .i64 4, .int .i64 x5_5, .int .i64 (wrap64 (1 + t126)), .int .u16 0, .int .u16 0, .int .u16 0, .slice none 0 0, .slice none 0 0, .int .i64 0, .int .i64 0, .int .i64 0, .int .i64 0]) ?_ 10 _ rfl; (with_reducible repeat (first | refine blk_drewN ?_ _ | refine blk_drew ?_ | refine blk_alloc ?_ _)); refine blk_put (cs := #[.int .i64 4, .int .i64 x5_5, .int .i64 (wrap64 (1 + t126)), .int .u16 0, .int .u16 0, .int .u16 0, .slice none 0 0, .slice none 0 0, .int .i64 0, .int .i64 0, .int .i64 0, .int .i64 0]) ?_ 9 _ rfl; (with_reducible repeat (first | refine blk_drewN ?_ _ | refine blk_drew ?_ | refine blk_alloc ?_ _)); refine blk_put (cs := #[.int .i64 4, .int .i64 x5_5, .int .i64 (wrap64 (1 + t126)), .int .u16 0, .int .u16 0, .int .u16 0, .slice none 0 0, .slice none 0 0, .int .i64 0, .int .i64 0, .int .i64 0, .int .i64 0]) ?_ 8 _ rfl; (with_reducible repeat (first | refine blk_drewN ?_ _ | refine blk_drew ?_ | refine blk_alloc ?_ _)); refine blk_put (cs := #[.int .i64 4, .int .i64 x5_5, .int .i64 (wrap64 (1 + t126)), .int .u16 0, .int .u16 0, .int .u16 0, .slice none 0 0, .slice none 0 0, .int .i64 0, .int .i64 0, .int .i64 0, .int .i64 0]) ?_ 7 _ rfl; (with_reducible repeat (first | refine blk_drewN ?_ _ | refine blk_drew ?_ | refine blk_alloc ?_ _)); refine blk_put (cs := #[.int .i64 4, .int .i64 x5_5, .int .i64 (wrap64 (1 + t126)), .int .u16 0, .int .u16 0, .int .u16 0, .slice none 0 0, .slice none 0 0, .int .i64 0, .int .i64 0, .int .i64 0, .int .i64 0]) ?_ 6 _ rfl; (with_reducible repeat (first | refine blk_drewN ?_ _ | refine blk_drew ?_ | refine blk_alloc ?_ _)); refine blk_put (cs := #[.int .i64 4, .int .i64 x5_5, .int .i64 (wrap64 (1 + t126)), .int .u16 0, .int .u16 0, .int .u16 0, .slice none 0 0, .slice none 0 0, .int .i64 0, .int .i64 0, .int .i64 0, .int .i64 0]) ?_ 5 _ rfl; (with_reducible repeat (first | refine blk_drewN ?_ _ | refine blk_drew ?_ | refine blk_alloc ?_ _)); refine blk_put (cs := #[.int .i64 4, .int .i64 x5_5, .int .i64 (wrap64 (1 + t126)), .int .u16 0, .int .u16 0, .int .u16 0, .slice none 0 0, .slice none 0 0, .int .i64 0, .int .i64 0, .int .i64 0, .int .i64 0]) ?_ 4 _ rfl; (with_reducible repeat (first | refine blk_drewN ?_ _ | refine blk_drew ?_ | refine blk_alloc ?_ _)); refine blk_put (cs := #[.int .i64 4, .int .i64 x5_5, .int .i64 (wrap64 (1 + t126)), .int .u16 0, .int .u16 0, .int .u16 0, .slice none 0 0, .slice none 0 0, .int .i64 0, .int .i64 0, .int .i64 0, .int .i64 0]) ?_ 3 _ rfl; (with_reducible repeat (first | refine blk_drewN ?_ _ | refine blk_drew ?_ | refine blk_alloc ?_ _)); refine blk_put (cs := #[.int .i64 4, .int .i64 x5_5, .int .i64 0, .int .u16 0, .int .u16 0, .int .u16 0, .slice none 0 0, .slice none 0 0, .int .i64 0, .int .i64 0, .int .i64 0, .int .i64 0]) ?_ 2 _ rfl; (with_reducible repeat (first | refine blk_drewN ?_ _ | refine blk_drew ?_ | refine blk_alloc ?_ _)); refine blk_put (cs := #[.int .i64 4, .int .i64 0, .int .i64 0, .int .u16 0, .int .u16 0, .int .u16 0, .slice none 0 0, .slice none 0 0, .int .i64 0, .int .i64 0, .int .i64 0, .int .i64 0]) ?_ 1 _ rfl; (with_reducible repeat (first | refine blk_drewN ?_ _ | refine blk_drew ?_ | refine blk_alloc ?_ _)); refine blk_put (cs := #[.int .i64 0, .int .i64 0, .int .i64 0, .int .u16 0, .int .u16 0, .int .u16 0, .slice none 0 0, .slice none 0 0, .int .i64 0, .int .i64 0, .int .i64 0, .int .i64 0]) ?_ 0 _ rfl; (with_reducible repeat (first | refine blk_drewN ?_ _ | refine blk_drew ?_ | refine blk_alloc ?_ _)); refine blk_far ?_ NB124_129.out _; (with_reducible repeat (first | refine blk_drewN ?_ _ | refine blk_drew ?_ | refine blk_alloc ?_ _)); refine blk_far ?_ NB124_129.out _; (with_reducible repeat (first | refine blk_drewN ?_ _ | refine blk_drew ?_ | refine blk_alloc ?_ _)); exact BK124.out) Try.underlying26 rfl (by kernel_rfl)) rfl ?_
         exact ⟨_, _, by first | rfl | (simp [errW_none, errW_some] <;> rfl) | (simp [*, errW_none, errW_some] <;> rfl), by first | exact Kd.R_nil _ _ _ _ _ | exact Kd.N_nil _ _ _ _ _ | exact Kd.V_nil _ _ _ _ _ | exact Kd.Q_nil _ _ _ _ _ | exact Kd.S_nil _ _ _ _ _, by first | exact Kd.R_nil _ _ _ _ _ | exact Kd.N_nil _ _ _ _ _ | exact Kd.V_nil _ _ _ _ _ | exact Kd.Q_nil _ _ _ _ _ | exact Kd.S_nil _ _ _ _ _, by repeat (first | (with_reducible first | exact HB.out | apply below_alloc | apply pw_below_drewN | apply below_drew1 | refine below_set ?_ GE124.out | refine below_set ?_ GE129.out) | exact HB.out)⟩
        ·
         rw [if_neg c31] at H
         have c31b0 : (t130 == 5) = false := beq_eq_false_iff_ne.mpr c31
         have c31b1 : (t130 != 5) = true := bne_iff_ne.mpr c31
         by_cases c35 : t130 = 6
         ·
          rw [if_pos c35] at H
          have c35b0 : (t130 == 6) = true := beq_iff_eq.mpr c35
          have c35b1 : (t130 != 6) = false := bne_eq_false_iff_eq.mpr c35
          clear c35
          replace H := Option.bind_eq_some_iff.mp H
          obtain ⟨t131, A360, H⟩ := H
          replace H : (some (5, x5_5, 0, IntKind.u16.wrap (t131), 0, 0, ([] : List Bool), ([] : List Int), 0, 0, 0, 0)) = some (r1, r2, r3, r4, r5, r6, r7, r8, r9, r10, r11, r12) := H
          have A36 := Aside0.mk A360
          clear A360
          simp only [Option.some.injEq, Prod.mk.injEq] at H
          obtain ⟨rfl, rfl, rfl, rfl, rfl, rfl, rfl, rfl, rfl, rfl, rfl, rfl⟩ := H
          go_wp2_with (first | ((with_reducible refine gate_callee (f := 16) rfl ?_); refine goesL_ (some 54) rfl rfl Try.func16 (by kernel_rfl) rfl #[.int .i64 a1, .int .i64 2] rfl (by (try simp only [List.map_toArray, List.map_cons, List.map_nil]); first | done | rfl | (simp only [List.length_drop, List.length_take]; rfl)) ?_; (with_reducible refine (busbarlaw0_Within.calls a1 2 t131 _ A36.out).mono ?_); rintro e w' ⟨rfl, ⟨nd, rfl⟩⟩; refine ⟨_, rfl, ?_⟩; (try (rw [drewN_self wc]; generalize hq_ : World.drewN wc _ = wc; have n0_ : Aside0 (wc.heap[gb124]? = some (.cells #[.int .i64 0, .int .i64 0, .int .i64 0, .int .u16 0, .int .u16 0, .int .u16 0, .slice none 0 0, .slice none 0 0, .int .i64 0, .int .i64 0, .int .i64 0, .int .i64 0] 26 (0, 0))) := ⟨by rw [← hq_]; exact (by (with_reducible repeat (first | refine blk_drewN ?_ _ | refine blk_drew ?_ | refine blk_alloc ?_ _)); exact BK124.out)⟩; have n1_ : Aside0 (wc.heap[gb129]? = some (.cells #[.int .i64 0, .int .i64 x5_5, .int .i64 0, .int .u16 0, .int .u16 0, .int .u16 0, .slice none 0 0, .slice none 0 0, .int .i64 0, .int .i64 0, .int .i64 0, .int .i64 0] 26 (0, 0))) := ⟨by rw [← hq_]; exact (by (with_reducible repeat (first | refine blk_drewN ?_ _ | refine blk_drew ?_ | refine blk_alloc ?_ _)); exact BK129.out)⟩; have n2_ : Aside0 (Below w.heap.size w wc) := ⟨by rw [← hq_]; exact (by repeat (first | (with_reducible first | exact HB.out | apply below_alloc | apply pw_below_drewN | apply below_drew1 | refine below_set ?_ GE124.out | refine below_set ?_ GE129.out) | exact HB.out))⟩; clear BK124 BK129 HB hq_; have BK124 := n0_; have BK129 := n1_; have HB := n2_; clear n0_ n1_ n2_)); have hnb37 := NB129_124.out; have hnc37 := NB124_129.out; have hcz38_0 : wc.cell? ⟨gb129, 0, none⟩ = some (.int .i64 0) := (blk_cell BK129.out 0).trans rfl; have hcz38_1 : wc.cell? ⟨gb129, 1, none⟩ = some (.int .i64 x5_5) := (blk_cell BK129.out 1).trans rfl; have hcz38_2 : wc.cell? ⟨gb129, 2, none⟩ = some (.int .i64 0) := (blk_cell BK129.out 2).trans rfl; have hcz38_3 : wc.cell? ⟨gb129, 3, none⟩ = some (.int .u16 0) := (blk_cell BK129.out 3).trans rfl; have hcz38_4 : wc.cell? ⟨gb129, 4, none⟩ = some (.int .u16 0) := (blk_cell BK129.out 4).trans rfl; have hcz38_5 : wc.cell? ⟨gb129, 5, none⟩ = some (.int .u16 0) := (blk_cell BK129.out 5).trans rfl; have hcz38_6 : wc.cell? ⟨gb129, 6, none⟩ = some (.slice none 0 0) := (blk_cell BK129.out 6).trans rfl; have hcz38_7 : wc.cell? ⟨gb129, 7, none⟩ = some (.slice none 0 0) := (blk_cell BK129.out 7).trans rfl; have hcz38_8 : wc.cell? ⟨gb129, 8, none⟩ = some (.int .i64 0) := (blk_cell BK129.out 8).trans rfl; have hcz38_9 : wc.cell? ⟨gb129, 9, none⟩ = some (.int .i64 0) := (blk_cell BK129.out 9).trans rfl; have hcz38_10 : wc.cell? ⟨gb129, 10, none⟩ = some (.int .i64 0) := (blk_cell BK129.out 10).trans rfl; have hcz38_11 : wc.cell? ⟨gb129, 11, none⟩ = some (.int .i64 0) := (blk_cell BK129.out 11).trans rfl; have hfz38_0 := blk_frozen BK129.out 0; have hfz38_1 := blk_frozen BK129.out 1; have hfz38_2 := blk_frozen BK129.out 2; have hfz38_3 := blk_frozen BK129.out 3; have hfz38_4 := blk_frozen BK129.out 4; have hfz38_5 := blk_frozen BK129.out 5; have hfz38_6 := blk_frozen BK129.out 6; have hfz38_7 := blk_frozen BK129.out 7; have hfz38_8 := blk_frozen BK129.out 8; have hfz38_9 := blk_frozen BK129.out 9; have hfz38_10 := blk_frozen BK129.out 10; have hfz38_11 := blk_frozen BK129.out 11; have hcz39_0 : wc.cell? ⟨gb124, 0, none⟩ = some (.int .i64 0) := (blk_cell BK124.out 0).trans rfl; have hcz39_1 : wc.cell? ⟨gb124, 1, none⟩ = some (.int .i64 0) := (blk_cell BK124.out 1).trans rfl; have hcz39_2 : wc.cell? ⟨gb124, 2, none⟩ = some (.int .i64 0) := (blk_cell BK124.out 2).trans rfl; have hcz39_3 : wc.cell? ⟨gb124, 3, none⟩ = some (.int .u16 0) := (blk_cell BK124.out 3).trans rfl; have hcz39_4 : wc.cell? ⟨gb124, 4, none⟩ = some (.int .u16 0) := (blk_cell BK124.out 4).trans rfl; have hcz39_5 : wc.cell? ⟨gb124, 5, none⟩ = some (.int .u16 0) := (blk_cell BK124.out 5).trans rfl; have hcz39_6 : wc.cell? ⟨gb124, 6, none⟩ = some (.slice none 0 0) := (blk_cell BK124.out 6).trans rfl; have hcz39_7 : wc.cell? ⟨gb124, 7, none⟩ = some (.slice none 0 0) := (blk_cell BK124.out 7).trans rfl; have hcz39_8 : wc.cell? ⟨gb124, 8, none⟩ = some (.int .i64 0) := (blk_cell BK124.out 8).trans rfl; have hcz39_9 : wc.cell? ⟨gb124, 9, none⟩ = some (.int .i64 0) := (blk_cell BK124.out 9).trans rfl; have hcz39_10 : wc.cell? ⟨gb124, 10, none⟩ = some (.int .i64 0) := (blk_cell BK124.out 10).trans rfl; have hcz39_11 : wc.cell? ⟨gb124, 11, none⟩ = some (.int .i64 0) := (blk_cell BK124.out 11).trans rfl; have hfz39_0 := blk_frozen BK124.out 0; have hfz39_1 := blk_frozen BK124.out 1; have hfz39_2 := blk_frozen BK124.out 2; have hfz39_3 := blk_frozen BK124.out 3; have hfz39_4 := blk_frozen BK124.out 4; have hfz39_5 := blk_frozen BK124.out 5; have hfz39_6 := blk_frozen BK124.out 6; have hfz39_7 := blk_frozen BK124.out 7; have hfz39_8 := blk_frozen BK124.out 8; have hfz39_9 := blk_frozen BK124.out 9; have hfz39_10 := blk_frozen BK124.out 10; have hfz39_11 := blk_frozen BK124.out 11))
          refine bodyPost_ret (results_cell_row rfl _ _ gb124 26 #[.int .i64 5, .int .i64 x5_5, .int .i64 0, .int .u16 (IntKind.u16.wrap (t131)), .int .u16 0, .int .u16 0, .slice none 0 0, .slice none 0 0, .int .i64 0, .int .i64 0, .int .i64 0, .int .i64 0] (0, 0) _ rfl (by (with_reducible repeat (first | refine blk_drewN ?_ _ | refine blk_drew ?_ | refine blk_alloc ?_ _)); refine blk_put (cs := #[.int .i64 5, .int .i64 x5_5, .int .i64 0, .int .u16 (IntKind.u16.wrap (t131)), .int .u16 0, .int .u16 0, .slice none 0 0, .slice none 0 0, .int .i64 0, .int .i64 0, .int .i64 0, .int .i64 0]) ?_ 11 _ rfl; (with_reducible repeat (first | refine blk_drewN ?_ _ | refine blk_drew ?_ | refine blk_alloc ?_ _)); refine blk_put (cs := #[.int .i64 5, .int .i64 x5_5, .int .i64 0, .int .u16 (IntKind.u16.wrap (t131)), .int .u16 0, .int .u16 0, .slice none 0 0, .slice none 0 0, .int .i64 0, .int .i64 0, .int .i64 0, .int .i64 0]) ?_ 10 _ rfl; (with_reducible repeat (first | refine blk_drewN ?_ _ | refine blk_drew ?_ | refine blk_alloc ?_ _)); refine blk_put (cs := #[.int .i64 5, .int .i64 x5_5, .int .i64 0, .int .u16 (IntKind.u16.wrap (t131)), .int .u16 0, .int .u16 0, .slice none 0 0, .slice none 0 0, .int .i64 0, .int .i64 0, .int .i64 0, .int .i64 0]) ?_ 9 _ rfl; (with_reducible repeat (first | refine blk_drewN ?_ _ | refine blk_drew ?_ | refine blk_alloc ?_ _)); refine blk_put (cs := #[.int .i64 5, .int .i64 x5_5, .int .i64 0, .int .u16 (IntKind.u16.wrap (t131)), .int .u16 0, .int .u16 0, .slice none 0 0, .slice none 0 0, .int .i64 0, .int .i64 0, .int .i64 0, .int .i64 0]) ?_ 8 _ rfl; (with_reducible repeat (first | refine blk_drewN ?_ _ | refine blk_drew ?_ | refine blk_alloc ?_ _)); refine blk_put (cs := #[.int .i64 5, .int .i64 x5_5, .int .i64 0, .int .u16 (IntKind.u16.wrap (t131)), .int .u16 0, .int .u16 0, .slice none 0 0, .slice none 0 0, .int .i64 0, .int .i64 0, .int .i64 0, .int .i64 0]) ?_ 7 _ rfl; (with_reducible repeat (first | refine blk_drewN ?_ _ | refine blk_drew ?_ | refine blk_alloc ?_ _)); refine blk_put (cs := #[.int .i64 5, .int .i64 x5_5, .int .i64 0, .int .u16 (IntKind.u16.wrap (t131)), .int .u16 0, .int .u16 0, .slice none 0 0, .slice none 0 0, .int .i64 0, .int .i64 0, .int .i64 0, .int .i64 0]) ?_ 6 _ rfl; (with_reducible repeat (first | refine blk_drewN ?_ _ | refine blk_drew ?_ | refine blk_alloc ?_ _)); refine blk_put (cs := #[.int .i64 5, .int .i64 x5_5, .int .i64 0, .int .u16 (IntKind.u16.wrap (t131)), .int .u16 0, .int .u16 0, .slice none 0 0, .slice none 0 0, .int .i64 0, .int .i64 0, .int .i64 0, .int .i64 0]) ?_ 5 _ rfl; (with_reducible repeat (first | refine blk_drewN ?_ _ | refine blk_drew ?_ | refine blk_alloc ?_ _)); refine blk_put (cs := #[.int .i64 5, .int .i64 x5_5, .int .i64 0, .int .u16 (IntKind.u16.wrap (t131)), .int .u16 0, .int .u16 0, .slice none 0 0, .slice none 0 0, .int .i64 0, .int .i64 0, .int .i64 0, .int .i64 0]) ?_ 4 _ rfl; (with_reducible repeat (first | refine blk_drewN ?_ _ | refine blk_drew ?_ | refine blk_alloc ?_ _)); refine blk_put (cs := #[.int .i64 5, .int .i64 x5_5, .int .i64 0, .int .u16 0, .int .u16 0, .int .u16 0, .slice none 0 0, .slice none 0 0, .int .i64 0, .int .i64 0, .int .i64 0, .int .i64 0]) ?_ 3 _ rfl; (with_reducible repeat (first | refine blk_drewN ?_ _ | refine blk_drew ?_ | refine blk_alloc ?_ _)); refine blk_put (cs := #[.int .i64 5, .int .i64 x5_5, .int .i64 0, .int .u16 0, .int .u16 0, .int .u16 0, .slice none 0 0, .slice none 0 0, .int .i64 0, .int .i64 0, .int .i64 0, .int .i64 0]) ?_ 2 _ rfl; (with_reducible repeat (first | refine blk_drewN ?_ _ | refine blk_drew ?_ | refine blk_alloc ?_ _)); refine blk_put (cs := #[.int .i64 5, .int .i64 0, .int .i64 0, .int .u16 0, .int .u16 0, .int .u16 0, .slice none 0 0, .slice none 0 0, .int .i64 0, .int .i64 0, .int .i64 0, .int .i64 0]) ?_ 1 _ rfl; (with_reducible repeat (first | refine blk_drewN ?_ _ | refine blk_drew ?_ | refine blk_alloc ?_ _)); refine blk_put (cs := #[.int .i64 0, .int .i64 0, .int .i64 0, .int .u16 0, .int .u16 0, .int .u16 0, .slice none 0 0, .slice none 0 0, .int .i64 0, .int .i64 0, .int .i64 0, .int .i64 0]) ?_ 0 _ rfl; (with_reducible repeat (first | refine blk_drewN ?_ _ | refine blk_drew ?_ | refine blk_alloc ?_ _)); refine blk_far ?_ NB124_129.out _; (with_reducible repeat (first | refine blk_drewN ?_ _ | refine blk_drew ?_ | refine blk_alloc ?_ _)); refine blk_far ?_ NB124_129.out _; (with_reducible repeat (first | refine blk_drewN ?_ _ | refine blk_drew ?_ | refine blk_alloc ?_ _)); exact BK124.out) Try.underlying26 rfl (by kernel_rfl)) rfl ?_
          exact ⟨_, _, by first | rfl | (simp [errW_none, errW_some] <;> rfl) | (simp [*, errW_none, errW_some] <;> rfl), by first | exact Kd.R_nil _ _ _ _ _ | exact Kd.N_nil _ _ _ _ _ | exact Kd.V_nil _ _ _ _ _ | exact Kd.Q_nil _ _ _ _ _ | exact Kd.S_nil _ _ _ _ _, by first | exact Kd.R_nil _ _ _ _ _ | exact Kd.N_nil _ _ _ _ _ | exact Kd.V_nil _ _ _ _ _ | exact Kd.Q_nil _ _ _ _ _ | exact Kd.S_nil _ _ _ _ _, by repeat (first | (with_reducible first | exact HB.out | apply below_alloc | apply pw_below_drewN | apply below_drew1 | refine below_set ?_ GE124.out | refine below_set ?_ GE129.out) | exact HB.out)⟩
         ·
          rw [if_neg c35] at H
          have c35b0 : (t130 == 6) = false := beq_eq_false_iff_ne.mpr c35
          have c35b1 : (t130 != 6) = true := bne_iff_ne.mpr c35
          have HC40 := Aside0.mk H
          clear H
          go_upto_if 58 with (fail)
          go_cut [58] (fun v58 wc => ∃ (kq : Nat) (x58_39 : Bool), v58 = .bool x58_39 ∧ Aside0 (busbarlaw0_Ask.j2 kq a0 a1 (wrap64 (1 + t126)) t130 x58_39 0 x5_5 0 0 0 0 0 0 0 0 = some (r1, r2, r3, r4, r5, r6, r7, r8, r9, r10, r11, r12)) ∧ Aside0 (kq ≤ kj20) ∧ Aside0 (wc.heap[gb124]? = some (.cells #[.int .i64 0, .int .i64 0, .int .i64 0, .int .u16 0, .int .u16 0, .int .u16 0, (.slice none 0 0), (.slice none 0 0), .int .i64 0, .int .i64 0, .int .i64 0, .int .i64 0] 26 (0, 0))) ∧ Aside0 (wc.heap[gb129]? = some (.cells #[.int .i64 0, .int .i64 x5_5, .int .i64 0, .int .u16 0, .int .u16 0, .int .u16 0, (.slice none 0 0), (.slice none 0 0), .int .i64 0, .int .i64 0, .int .i64 0, .int .i64 0] 26 (0, 0))) ∧ Aside0 (Below w.heap.size w wc))
          case first =>
           have H := HC40.out
           clear HC40
           by_cases c41 : t130 = 7
           ·
            rw [if_pos c41] at H
            have c41b0 : (t130 == 7) = true := beq_iff_eq.mpr c41
            have c41b1 : (t130 != 7) = false := bne_eq_false_iff_eq.mpr c41
            clear c41
            (first | rw [c41b0] | (simp only [i64_w, i32_w]; rw [c41b0]) | skip)
            have H' := Aside0.mk H
            clear H
            go_wp2
            go_meet
            case rel => exact ⟨_, ((t130 == 7)), (by first | rfl | (simp; done) | (simp [*]; done)), H', ⟨by have := HJ5.out; have := HJ20.out; first | omega | exact Nat.le_refl _⟩, ⟨by (with_reducible repeat (first | refine blk_drewN ?_ _ | refine blk_drew ?_ | refine blk_alloc ?_ _)); exact BK124.out⟩, ⟨by (with_reducible repeat (first | refine blk_drewN ?_ _ | refine blk_drew ?_ | refine blk_alloc ?_ _)); exact BK129.out⟩, ⟨by repeat (first | (with_reducible first | exact HB.out | apply below_alloc | apply pw_below_drewN | apply below_drew1 | refine below_set ?_ GE124.out | refine below_set ?_ GE129.out) | exact HB.out)⟩⟩
           ·
            rw [if_neg c41] at H
            have c41b0 : (t130 == 7) = false := beq_eq_false_iff_ne.mpr c41
            have c41b1 : (t130 != 7) = true := bne_iff_ne.mpr c41
            (first | rw [c41b0] | (simp only [i64_w, i32_w]; rw [c41b0]) | skip)
            by_cases c42 : t130 = 8
            ·
             rw [if_pos c42] at H
             have c42b0 : (t130 == 8) = true := beq_iff_eq.mpr c42
             have c42b1 : (t130 != 8) = false := bne_eq_false_iff_eq.mpr c42
             clear c42
             have H' := Aside0.mk H
             clear H
             go_wp2
             go_meet
             case rel => exact ⟨_, ((t130 == 8)), (by first | rfl | (simp; done) | (simp [*]; done)), H', ⟨by have := HJ5.out; have := HJ20.out; first | omega | exact Nat.le_refl _⟩, ⟨by (with_reducible repeat (first | refine blk_drewN ?_ _ | refine blk_drew ?_ | refine blk_alloc ?_ _)); exact BK124.out⟩, ⟨by (with_reducible repeat (first | refine blk_drewN ?_ _ | refine blk_drew ?_ | refine blk_alloc ?_ _)); exact BK129.out⟩, ⟨by repeat (first | (with_reducible first | exact HB.out | apply below_alloc | apply pw_below_drewN | apply below_drew1 | refine below_set ?_ GE124.out | refine below_set ?_ GE129.out) | exact HB.out)⟩⟩
            ·
             rw [if_neg c42] at H
             have c42b0 : (t130 == 8) = false := beq_eq_false_iff_ne.mpr c42
             have c42b1 : (t130 != 8) = true := bne_iff_ne.mpr c42
             have H' := Aside0.mk H
             clear H
             go_wp2
             go_meet
             case rel => exact ⟨_, ((t130 == 9)), (by first | rfl | (simp; done) | (simp [*]; done)), H', ⟨by have := HJ5.out; have := HJ20.out; first | omega | exact Nat.le_refl _⟩, ⟨by (with_reducible repeat (first | refine blk_drewN ?_ _ | refine blk_drew ?_ | refine blk_alloc ?_ _)); exact BK124.out⟩, ⟨by (with_reducible repeat (first | refine blk_drewN ?_ _ | refine blk_drew ?_ | refine blk_alloc ?_ _)); exact BK129.out⟩, ⟨by repeat (first | (with_reducible first | exact HB.out | apply below_alloc | apply pw_below_drewN | apply below_drew1 | refine below_set ?_ GE124.out | refine below_set ?_ GE129.out) | exact HB.out)⟩⟩
          case rest =>
           clear HC40
           try clear c1
           try clear c2
           try clear p2
           try clear c3
           try clear c4
           try clear p6
           try clear c8
           try clear c8b0
           try clear c8b1
           try clear c11
           try clear c11b0
           try clear c11b1
           try clear c13
           try clear c15
           try clear c16
           try clear c16b0
           try clear c16b1
           try clear c18
           try clear c23
           try clear c25
           try clear c25b0
           try clear c25b1
           try clear c26
           try clear c26b0
           try clear c26b1
           try clear c27
           try clear c28
           try clear c31
           try clear c31b0
           try clear c31b1
           try clear c32
           try clear c35
           try clear c35b0
           try clear c35b1
           try clear c37
           try clear c41
           try clear c41b0
           try clear c41b1
           try clear c42
           try clear c42b0
           try clear c42b1
           try clear hcz14_0
           try clear hcz14_1
           try clear hcz14_10
           try clear hcz14_11
           try clear hcz14_2
           try clear hcz14_3
           try clear hcz14_4
           try clear hcz14_5
           try clear hcz14_6
           try clear hcz14_7
           try clear hcz14_8
           try clear hcz14_9
           try clear hcz15_0
           try clear hcz15_1
           try clear hcz15_10
           try clear hcz15_11
           try clear hcz15_2
           try clear hcz15_3
           try clear hcz15_4
           try clear hcz15_5
           try clear hcz15_6
           try clear hcz15_7
           try clear hcz15_8
           try clear hcz15_9
           try clear hcz19_0
           try clear hcz19_1
           try clear hcz19_10
           try clear hcz19_11
           try clear hcz19_2
           try clear hcz19_3
           try clear hcz19_4
           try clear hcz19_5
           try clear hcz19_6
           try clear hcz19_7
           try clear hcz19_8
           try clear hcz19_9
           try clear hcz20_0
           try clear hcz20_1
           try clear hcz20_10
           try clear hcz20_11
           try clear hcz20_2
           try clear hcz20_3
           try clear hcz20_4
           try clear hcz20_5
           try clear hcz20_6
           try clear hcz20_7
           try clear hcz20_8
           try clear hcz20_9
           try clear hcz24_0
           try clear hcz24_1
           try clear hcz24_10
           try clear hcz24_11
           try clear hcz24_2
           try clear hcz24_3
           try clear hcz24_4
           try clear hcz24_5
           try clear hcz24_6
           try clear hcz24_7
           try clear hcz24_8
           try clear hcz24_9
           try clear hcz29_0
           try clear hcz29_1
           try clear hcz29_10
           try clear hcz29_11
           try clear hcz29_2
           try clear hcz29_3
           try clear hcz29_4
           try clear hcz29_5
           try clear hcz29_6
           try clear hcz29_7
           try clear hcz29_8
           try clear hcz29_9
           try clear hcz30_0
           try clear hcz30_1
           try clear hcz30_10
           try clear hcz30_11
           try clear hcz30_2
           try clear hcz30_3
           try clear hcz30_4
           try clear hcz30_5
           try clear hcz30_6
           try clear hcz30_7
           try clear hcz30_8
           try clear hcz30_9
           try clear hcz33_0
           try clear hcz33_1
           try clear hcz33_10
           try clear hcz33_11
           try clear hcz33_2
           try clear hcz33_3
           try clear hcz33_4
           try clear hcz33_5
           try clear hcz33_6
           try clear hcz33_7
           try clear hcz33_8
           try clear hcz33_9
           try clear hcz34_0
           try clear hcz34_1
           try clear hcz34_10
           try clear hcz34_11
           try clear hcz34_2
           try clear hcz34_3
           try clear hcz34_4
           try clear hcz34_5
           try clear hcz34_6
           try clear hcz34_7
           try clear hcz34_8
           try clear hcz34_9
           try clear hcz38_0
           try clear hcz38_1
           try clear hcz38_10
           try clear hcz38_11
           try clear hcz38_2
           try clear hcz38_3
           try clear hcz38_4
           try clear hcz38_5
           try clear hcz38_6
           try clear hcz38_7
           try clear hcz38_8
           try clear hcz38_9
           try clear hcz39_0
           try clear hcz39_1
           try clear hcz39_10
           try clear hcz39_11
           try clear hcz39_2
           try clear hcz39_3
           try clear hcz39_4
           try clear hcz39_5
           try clear hcz39_6
           try clear hcz39_7
           try clear hcz39_8
           try clear hcz39_9
           try clear hfz14_0
           try clear hfz14_1
           try clear hfz14_10
           try clear hfz14_11
           try clear hfz14_2
           try clear hfz14_3
           try clear hfz14_4
           try clear hfz14_5
           try clear hfz14_6
           try clear hfz14_7
           try clear hfz14_8
           try clear hfz14_9
           try clear hfz15_0
           try clear hfz15_1
           try clear hfz15_10
           try clear hfz15_11
           try clear hfz15_2
           try clear hfz15_3
           try clear hfz15_4
           try clear hfz15_5
           try clear hfz15_6
           try clear hfz15_7
           try clear hfz15_8
           try clear hfz15_9
           try clear hfz19_0
           try clear hfz19_1
           try clear hfz19_10
           try clear hfz19_11
           try clear hfz19_2
           try clear hfz19_3
           try clear hfz19_4
           try clear hfz19_5
           try clear hfz19_6
           try clear hfz19_7
           try clear hfz19_8
           try clear hfz19_9
           try clear hfz20_0
           try clear hfz20_1
           try clear hfz20_10
           try clear hfz20_11
           try clear hfz20_2
           try clear hfz20_3
           try clear hfz20_4
           try clear hfz20_5
           try clear hfz20_6
           try clear hfz20_7
           try clear hfz20_8
           try clear hfz20_9
           try clear hfz24_0
           try clear hfz24_1
           try clear hfz24_10
           try clear hfz24_11
           try clear hfz24_2
           try clear hfz24_3
           try clear hfz24_4
           try clear hfz24_5
           try clear hfz24_6
           try clear hfz24_7
           try clear hfz24_8
           try clear hfz24_9
           try clear hfz29_0
           try clear hfz29_1
           try clear hfz29_10
           try clear hfz29_11
           try clear hfz29_2
           try clear hfz29_3
           try clear hfz29_4
           try clear hfz29_5
           try clear hfz29_6
           try clear hfz29_7
           try clear hfz29_8
           try clear hfz29_9
           try clear hfz30_0
           try clear hfz30_1
           try clear hfz30_10
           try clear hfz30_11
           try clear hfz30_2
           try clear hfz30_3
           try clear hfz30_4
           try clear hfz30_5
           try clear hfz30_6
           try clear hfz30_7
           try clear hfz30_8
           try clear hfz30_9
           try clear hfz33_0
           try clear hfz33_1
           try clear hfz33_10
           try clear hfz33_11
           try clear hfz33_2
           try clear hfz33_3
           try clear hfz33_4
           try clear hfz33_5
           try clear hfz33_6
           try clear hfz33_7
           try clear hfz33_8
           try clear hfz33_9
           try clear hfz34_0
           try clear hfz34_1
           try clear hfz34_10
           try clear hfz34_11
           try clear hfz34_2
           try clear hfz34_3
           try clear hfz34_4
           try clear hfz34_5
           try clear hfz34_6
           try clear hfz34_7
           try clear hfz34_8
           try clear hfz34_9
           try clear hfz38_0
           try clear hfz38_1
           try clear hfz38_10
           try clear hfz38_11
           try clear hfz38_2
           try clear hfz38_3
           try clear hfz38_4
           try clear hfz38_5
           try clear hfz38_6
           try clear hfz38_7
           try clear hfz38_8
           try clear hfz38_9
           try clear hfz39_0
           try clear hfz39_1
           try clear hfz39_10
           try clear hfz39_11
           try clear hfz39_2
           try clear hfz39_3
           try clear hfz39_4
           try clear hfz39_5
           try clear hfz39_6
           try clear hfz39_7
           try clear hfz39_8
           try clear hfz39_9
           try clear p2
           try clear p6
           obtain ⟨kq, x58_39, rfl, HA, HJ39, BK124, BK129, HB⟩ := hcut
           cases kq with
           | zero => exact absurd HA.out (by simp [busbarlaw0_Ask.j2])
           | succ kj39 =>
            have H := HA.out
            clear HA
            simp only [busbarlaw0_Ask.j2] at H
            by_cases c43 : x58_39 = true
            ·
             subst c43
             have H1 : ((busbarlaw0_Within.f a1 60000).bind fun t132 => (some (6, x5_5, 0, IntKind.u16.wrap (t132), 0, 0, ([] : List Bool), ([] : List Int), 0, 0, 0, 0))) = some (r1, r2, r3, r4, r5, r6, r7, r8, r9, r10, r11, r12) := by rw [if_pos rfl] at H; exact H
             clear H
             have H := H1
             clear H1
             replace H := Option.bind_eq_some_iff.mp H
             obtain ⟨t132, A440, H⟩ := H
             replace H : (some (6, x5_5, 0, IntKind.u16.wrap (t132), 0, 0, ([] : List Bool), ([] : List Int), 0, 0, 0, 0)) = some (r1, r2, r3, r4, r5, r6, r7, r8, r9, r10, r11, r12) := H
             have A44 := Aside0.mk A440
             clear A440
             simp only [Option.some.injEq, Prod.mk.injEq] at H
             obtain ⟨rfl, rfl, rfl, rfl, rfl, rfl, rfl, rfl, rfl, rfl, rfl, rfl⟩ := H
             go_wp2_with (first | ((with_reducible refine gate_callee (f := 16) rfl ?_); refine goesL_ (some 63) rfl rfl Try.func16 (by kernel_rfl) rfl #[.int .i64 a1, .int .i64 60000] rfl (by (try simp only [List.map_toArray, List.map_cons, List.map_nil]); first | done | rfl | (simp only [List.length_drop, List.length_take]; rfl)) ?_; (with_reducible refine (busbarlaw0_Within.calls a1 60000 t132 _ A44.out).mono ?_); rintro e w' ⟨rfl, ⟨nd, rfl⟩⟩; refine ⟨_, rfl, ?_⟩; (try (rw [drewN_self wc]; generalize hq_ : World.drewN wc _ = wc; have n0_ : Aside0 (wc.heap[gb124]? = some (.cells #[.int .i64 0, .int .i64 0, .int .i64 0, .int .u16 0, .int .u16 0, .int .u16 0, .slice none 0 0, .slice none 0 0, .int .i64 0, .int .i64 0, .int .i64 0, .int .i64 0] 26 (0, 0))) := ⟨by rw [← hq_]; exact (by (with_reducible repeat (first | refine blk_drewN ?_ _ | refine blk_drew ?_ | refine blk_alloc ?_ _)); exact BK124.out)⟩; have n1_ : Aside0 (wc.heap[gb129]? = some (.cells #[.int .i64 0, .int .i64 x5_5, .int .i64 0, .int .u16 0, .int .u16 0, .int .u16 0, .slice none 0 0, .slice none 0 0, .int .i64 0, .int .i64 0, .int .i64 0, .int .i64 0] 26 (0, 0))) := ⟨by rw [← hq_]; exact (by (with_reducible repeat (first | refine blk_drewN ?_ _ | refine blk_drew ?_ | refine blk_alloc ?_ _)); exact BK129.out)⟩; have n2_ : Aside0 (Below w.heap.size w wc) := ⟨by rw [← hq_]; exact (by repeat (first | (with_reducible first | exact HB.out | apply below_alloc | apply pw_below_drewN | apply below_drew1 | refine below_set ?_ GE124.out | refine below_set ?_ GE129.out) | exact HB.out))⟩; clear BK124 BK129 HB hq_; have BK124 := n0_; have BK129 := n1_; have HB := n2_; clear n0_ n1_ n2_)); have hnb45 := NB129_124.out; have hnc45 := NB124_129.out; have hcz46_0 : wc.cell? ⟨gb129, 0, none⟩ = some (.int .i64 0) := (blk_cell BK129.out 0).trans rfl; have hcz46_1 : wc.cell? ⟨gb129, 1, none⟩ = some (.int .i64 x5_5) := (blk_cell BK129.out 1).trans rfl; have hcz46_2 : wc.cell? ⟨gb129, 2, none⟩ = some (.int .i64 0) := (blk_cell BK129.out 2).trans rfl; have hcz46_3 : wc.cell? ⟨gb129, 3, none⟩ = some (.int .u16 0) := (blk_cell BK129.out 3).trans rfl; have hcz46_4 : wc.cell? ⟨gb129, 4, none⟩ = some (.int .u16 0) := (blk_cell BK129.out 4).trans rfl; have hcz46_5 : wc.cell? ⟨gb129, 5, none⟩ = some (.int .u16 0) := (blk_cell BK129.out 5).trans rfl; have hcz46_6 : wc.cell? ⟨gb129, 6, none⟩ = some (.slice none 0 0) := (blk_cell BK129.out 6).trans rfl; have hcz46_7 : wc.cell? ⟨gb129, 7, none⟩ = some (.slice none 0 0) := (blk_cell BK129.out 7).trans rfl; have hcz46_8 : wc.cell? ⟨gb129, 8, none⟩ = some (.int .i64 0) := (blk_cell BK129.out 8).trans rfl; have hcz46_9 : wc.cell? ⟨gb129, 9, none⟩ = some (.int .i64 0) := (blk_cell BK129.out 9).trans rfl; have hcz46_10 : wc.cell? ⟨gb129, 10, none⟩ = some (.int .i64 0) := (blk_cell BK129.out 10).trans rfl; have hcz46_11 : wc.cell? ⟨gb129, 11, none⟩ = some (.int .i64 0) := (blk_cell BK129.out 11).trans rfl; have hfz46_0 := blk_frozen BK129.out 0; have hfz46_1 := blk_frozen BK129.out 1; have hfz46_2 := blk_frozen BK129.out 2; have hfz46_3 := blk_frozen BK129.out 3; have hfz46_4 := blk_frozen BK129.out 4; have hfz46_5 := blk_frozen BK129.out 5; have hfz46_6 := blk_frozen BK129.out 6; have hfz46_7 := blk_frozen BK129.out 7; have hfz46_8 := blk_frozen BK129.out 8; have hfz46_9 := blk_frozen BK129.out 9; have hfz46_10 := blk_frozen BK129.out 10; have hfz46_11 := blk_frozen BK129.out 11; have hcz47_0 : wc.cell? ⟨gb124, 0, none⟩ = some (.int .i64 0) := (blk_cell BK124.out 0).trans rfl; have hcz47_1 : wc.cell? ⟨gb124, 1, none⟩ = some (.int .i64 0) := (blk_cell BK124.out 1).trans rfl; have hcz47_2 : wc.cell? ⟨gb124, 2, none⟩ = some (.int .i64 0) := (blk_cell BK124.out 2).trans rfl; have hcz47_3 : wc.cell? ⟨gb124, 3, none⟩ = some (.int .u16 0) := (blk_cell BK124.out 3).trans rfl; have hcz47_4 : wc.cell? ⟨gb124, 4, none⟩ = some (.int .u16 0) := (blk_cell BK124.out 4).trans rfl; have hcz47_5 : wc.cell? ⟨gb124, 5, none⟩ = some (.int .u16 0) := (blk_cell BK124.out 5).trans rfl; have hcz47_6 : wc.cell? ⟨gb124, 6, none⟩ = some (.slice none 0 0) := (blk_cell BK124.out 6).trans rfl; have hcz47_7 : wc.cell? ⟨gb124, 7, none⟩ = some (.slice none 0 0) := (blk_cell BK124.out 7).trans rfl; have hcz47_8 : wc.cell? ⟨gb124, 8, none⟩ = some (.int .i64 0) := (blk_cell BK124.out 8).trans rfl; have hcz47_9 : wc.cell? ⟨gb124, 9, none⟩ = some (.int .i64 0) := (blk_cell BK124.out 9).trans rfl; have hcz47_10 : wc.cell? ⟨gb124, 10, none⟩ = some (.int .i64 0) := (blk_cell BK124.out 10).trans rfl; have hcz47_11 : wc.cell? ⟨gb124, 11, none⟩ = some (.int .i64 0) := (blk_cell BK124.out 11).trans rfl; have hfz47_0 := blk_frozen BK124.out 0; have hfz47_1 := blk_frozen BK124.out 1; have hfz47_2 := blk_frozen BK124.out 2; have hfz47_3 := blk_frozen BK124.out 3; have hfz47_4 := blk_frozen BK124.out 4; have hfz47_5 := blk_frozen BK124.out 5; have hfz47_6 := blk_frozen BK124.out 6; have hfz47_7 := blk_frozen BK124.out 7; have hfz47_8 := blk_frozen BK124.out 8; have hfz47_9 := blk_frozen BK124.out 9; have hfz47_10 := blk_frozen BK124.out 10; have hfz47_11 := blk_frozen BK124.out 11))
             refine bodyPost_ret (results_cell_row rfl _ _ gb124 26 #[.int .i64 6, .int .i64 x5_5, .int .i64 0, .int .u16 (IntKind.u16.wrap (t132)), .int .u16 0, .int .u16 0, .slice none 0 0, .slice none 0 0, .int .i64 0, .int .i64 0, .int .i64 0, .int .i64 0] (0, 0) _ rfl (by (with_reducible repeat (first | refine blk_drewN ?_ _ | refine blk_drew ?_ | refine blk_alloc ?_ _)); refine blk_put (cs := #[.int .i64 6, .int .i64 x5_5, .int .i64 0, .int .u16 (IntKind.u16.wrap (t132)), .int .u16 0, .int .u16 0, .slice none 0 0, .slice none 0 0, .int .i64 0, .int .i64 0, .int .i64 0, .int .i64 0]) ?_ 11 _ rfl; (with_reducible repeat (first | refine blk_drewN ?_ _ | refine blk_drew ?_ | refine blk_alloc ?_ _)); refine blk_put (cs := #[.int .i64 6, .int .i64 x5_5, .int .i64 0, .int .u16 (IntKind.u16.wrap (t132)), .int .u16 0, .int .u16 0, .slice none 0 0, .slice none 0 0, .int .i64 0, .int .i64 0, .int .i64 0, .int .i64 0]) ?_ 10 _ rfl; (with_reducible repeat (first | refine blk_drewN ?_ _ | refine blk_drew ?_ | refine blk_alloc ?_ _)); refine blk_put (cs := #[.int .i64 6, .int .i64 x5_5, .int .i64 0, .int .u16 (IntKind.u16.wrap (t132)), .int .u16 0, .int .u16 0, .slice none 0 0, .slice none 0 0, .int .i64 0, .int .i64 0, .int .i64 0, .int .i64 0]) ?_ 9 _ rfl; (with_reducible repeat (first | refine blk_drewN ?_ _ | refine blk_drew ?_ | refine blk_alloc ?_ _)); refine blk_put (cs := #[.int .i64 6, .int .i64 x5_5, .int .i64 0, .int .u16 (IntKind.u16.wrap (t132)), .int .u16 0, .int .u16 0, .slice none 0 0, .slice none 0 0, .int .i64 0, .int .i64 0, .int .i64 0, .int .i64 0]) ?_ 8 _ rfl; (with_reducible repeat (first | refine blk_drewN ?_ _ | refine blk_drew ?_ | refine blk_alloc ?_ _)); refine blk_put (cs := #[.int .i64 6, .int .i64 x5_5, .int .i64 0, .int .u16 (IntKind.u16.wrap (t132)), .int .u16 0, .int .u16 0, .slice none 0 0, .slice none 0 0, .int .i64 0, .int .i64 0, .int .i64 0, .int .i64 0]) ?_ 7 _ rfl; (with_reducible repeat (first | refine blk_drewN ?_ _ | refine blk_drew ?_ | refine blk_alloc ?_ _)); refine blk_put (cs := #[.int .i64 6, .int .i64 x5_5, .int .i64 0, .int .u16 (IntKind.u16.wrap (t132)), .int .u16 0, .int .u16 0, .slice none 0 0, .slice none 0 0, .int .i64 0, .int .i64 0, .int .i64 0, .int .i64 0]) ?_ 6 _ rfl; (with_reducible repeat (first | refine blk_drewN ?_ _ | refine blk_drew ?_ | refine blk_alloc ?_ _)); refine blk_put (cs := #[.int .i64 6, .int .i64 x5_5, .int .i64 0, .int .u16 (IntKind.u16.wrap (t132)), .int .u16 0, .int .u16 0, .slice none 0 0, .slice none 0 0, .int .i64 0, .int .i64 0, .int .i64 0, .int .i64 0]) ?_ 5 _ rfl; (with_reducible repeat (first | refine blk_drewN ?_ _ | refine blk_drew ?_ | refine blk_alloc ?_ _)); refine blk_put (cs := #[.int .i64 6, .int .i64 x5_5, .int .i64 0, .int .u16 (IntKind.u16.wrap (t132)), .int .u16 0, .int .u16 0, .slice none 0 0, .slice none 0 0, .int .i64 0, .int .i64 0, .int .i64 0, .int .i64 0]) ?_ 4 _ rfl; (with_reducible repeat (first | refine blk_drewN ?_ _ | refine blk_drew ?_ | refine blk_alloc ?_ _)); refine blk_put (cs := #[.int .i64 6, .int .i64 x5_5, .int .i64 0, .int .u16 0, .int .u16 0, .int .u16 0, .slice none 0 0, .slice none 0 0, .int .i64 0, .int .i64 0, .int .i64 0, .int .i64 0]) ?_ 3 _ rfl; (with_reducible repeat (first | refine blk_drewN ?_ _ | refine blk_drew ?_ | refine blk_alloc ?_ _)); refine blk_put (cs := #[.int .i64 6, .int .i64 x5_5, .int .i64 0, .int .u16 0, .int .u16 0, .int .u16 0, .slice none 0 0, .slice none 0 0, .int .i64 0, .int .i64 0, .int .i64 0, .int .i64 0]) ?_ 2 _ rfl; (with_reducible repeat (first | refine blk_drewN ?_ _ | refine blk_drew ?_ | refine blk_alloc ?_ _)); refine blk_put (cs := #[.int .i64 6, .int .i64 0, .int .i64 0, .int .u16 0, .int .u16 0, .int .u16 0, .slice none 0 0, .slice none 0 0, .int .i64 0, .int .i64 0, .int .i64 0, .int .i64 0]) ?_ 1 _ rfl; (with_reducible repeat (first | refine blk_drewN ?_ _ | refine blk_drew ?_ | refine blk_alloc ?_ _)); refine blk_put (cs := #[.int .i64 0, .int .i64 0, .int .i64 0, .int .u16 0, .int .u16 0, .int .u16 0, .slice none 0 0, .slice none 0 0, .int .i64 0, .int .i64 0, .int .i64 0, .int .i64 0]) ?_ 0 _ rfl; (with_reducible repeat (first | refine blk_drewN ?_ _ | refine blk_drew ?_ | refine blk_alloc ?_ _)); refine blk_far ?_ NB124_129.out _; (with_reducible repeat (first | refine blk_drewN ?_ _ | refine blk_drew ?_ | refine blk_alloc ?_ _)); refine blk_far ?_ NB124_129.out _; (with_reducible repeat (first | refine blk_drewN ?_ _ | refine blk_drew ?_ | refine blk_alloc ?_ _)); exact BK124.out) Try.underlying26 rfl (by kernel_rfl)) rfl ?_
             exact ⟨_, _, by first | rfl | (simp [errW_none, errW_some] <;> rfl) | (simp [*, errW_none, errW_some] <;> rfl), by first | exact Kd.R_nil _ _ _ _ _ | exact Kd.N_nil _ _ _ _ _ | exact Kd.V_nil _ _ _ _ _ | exact Kd.Q_nil _ _ _ _ _ | exact Kd.S_nil _ _ _ _ _, by first | exact Kd.R_nil _ _ _ _ _ | exact Kd.N_nil _ _ _ _ _ | exact Kd.V_nil _ _ _ _ _ | exact Kd.Q_nil _ _ _ _ _ | exact Kd.S_nil _ _ _ _ _, by repeat (first | (with_reducible first | exact HB.out | apply below_alloc | apply pw_below_drewN | apply below_drew1 | refine below_set ?_ GE124.out | refine below_set ?_ GE129.out) | exact HB.out)⟩
            ·
             replace c43 := Bool.eq_false_iff.mpr c43
             subst c43
             have H1 : (if t130 = 10 then ((busbarlaw0_Digit.f a1 64 3).bind fun t133 => (if t133 = 0 then ((busbarlaw0_Digit.f a0 16 20).bind fun t134 => (busbarlaw0_Ask.j3 kj39 a1 (wrap64 (14 + (wrap64 (1 + t126)))) 0 t134 0 0 0 0 0 0 0 0)) else (busbarlaw0_Ask.j3 kj39 a1 (wrap64 (1 + t126)) 0 x5_5 0 0 0 0 0 0 0 0))) else (if t130 = 11 then (busbarlaw0_Ask.j5 kj39 a1 (wrap64 (1 + t126)) t130 (t130 == 11) 0 x5_5 0 0 0 0 0 0 0 0) else (busbarlaw0_Ask.j5 kj39 a1 (wrap64 (1 + t126)) t130 (t130 == 12) 0 x5_5 0 0 0 0 0 0 0 0))) = some (r1, r2, r3, r4, r5, r6, r7, r8, r9, r10, r11, r12) := by rw [if_neg (show ¬ (false = true) by decide)] at H; exact H
             clear H
             have H := H1
             clear H1
             by_cases c48 : t130 = 10
             ·
              rw [if_pos c48] at H
              have c48b0 : (t130 == 10) = true := beq_iff_eq.mpr c48
              have c48b1 : (t130 != 10) = false := bne_eq_false_iff_eq.mpr c48
              clear c48
              replace H := Option.bind_eq_some_iff.mp H
              obtain ⟨t133, A490, H⟩ := H
              replace H : (if t133 = 0 then ((busbarlaw0_Digit.f a0 16 20).bind fun t134 => (busbarlaw0_Ask.j3 kj39 a1 (wrap64 (14 + (wrap64 (1 + t126)))) 0 t134 0 0 0 0 0 0 0 0)) else (busbarlaw0_Ask.j3 kj39 a1 (wrap64 (1 + t126)) 0 x5_5 0 0 0 0 0 0 0 0)) = some (r1, r2, r3, r4, r5, r6, r7, r8, r9, r10, r11, r12) := H
              have A49 := Aside0.mk A490
              clear A490
              have HC50 := Aside0.mk H
              clear H
              go_upto_if 71 with (first | ((with_reducible refine gate_callee (f := 31) rfl ?_); refine goesL_ (some 70) rfl rfl Try.func31 (by kernel_rfl) rfl #[.int .i64 a1, .int .i64 64, .int .i64 3] rfl (by (try simp only [List.map_toArray, List.map_cons, List.map_nil]); first | done | rfl | (simp only [List.length_drop, List.length_take]; rfl)) ?_; (with_reducible refine (busbarlaw0_Digit.calls a1 64 3 t133 _ A49.out).mono ?_); rintro e w' ⟨rfl, ⟨nd, rfl⟩⟩; refine ⟨_, rfl, ?_⟩))
              (try simp only [Act.put, List.setIfInBounds_toArray, List.set_cons_zero, List.set_cons_succ])
              go_cut [6] (fun v6 wc => ∃ (kq : Nat) (x6_49 : Int) (x130001_49 : Int), v6 = .int .i64 x6_49 ∧ Aside0 (busbarlaw0_Ask.j3 kq a1 x6_49 0 x130001_49 0 0 0 0 0 0 0 0 = some (r1, r2, r3, r4, r5, r6, r7, r8, r9, r10, r11, r12)) ∧ Aside0 (kq ≤ kj39) ∧ Aside0 (wc.heap[gb124]? = some (.cells #[.int .i64 0, .int .i64 0, .int .i64 0, .int .u16 0, .int .u16 0, .int .u16 0, (.slice none 0 0), (.slice none 0 0), .int .i64 0, .int .i64 0, .int .i64 0, .int .i64 0] 26 (0, 0))) ∧ Aside0 (wc.heap[gb129]? = some (.cells #[.int .i64 0, .int .i64 x130001_49, .int .i64 0, .int .u16 0, .int .u16 0, .int .u16 0, (.slice none 0 0), (.slice none 0 0), .int .i64 0, .int .i64 0, .int .i64 0, .int .i64 0] 26 (0, 0))) ∧ Aside0 (Below w.heap.size w wc))
              case first =>
               have H := HC50.out
               clear HC50
               by_cases c51 : t133 = 0
               ·
                rw [if_pos c51] at H
                have c51b0 : (t133 == 0) = true := beq_iff_eq.mpr c51
                have c51b1 : (t133 != 0) = false := bne_eq_false_iff_eq.mpr c51
                clear c51
                (first | rw [c51b0] | (simp only [i64_w, i32_w]; rw [c51b0]) | skip)
                replace H := Option.bind_eq_some_iff.mp H
                obtain ⟨t134, A520, H⟩ := H
                replace H : (busbarlaw0_Ask.j3 kj39 a1 (wrap64 (14 + (wrap64 (1 + t126)))) 0 t134 0 0 0 0 0 0 0 0) = some (r1, r2, r3, r4, r5, r6, r7, r8, r9, r10, r11, r12) := H
                have A52 := Aside0.mk A520
                clear A520
                have H' := Aside0.mk H
                clear H
                go_wp2_with (first | ((with_reducible refine gate_callee (f := 31) rfl ?_); refine goesL_ (some 73) rfl rfl Try.func31 (by kernel_rfl) rfl #[.int .i64 a0, .int .i64 16, .int .i64 20] rfl (by (try simp only [List.map_toArray, List.map_cons, List.map_nil]); first | done | rfl | (simp only [List.length_drop, List.length_take]; rfl)) ?_; (with_reducible refine (busbarlaw0_Digit.calls a0 16 20 t134 _ A52.out).mono ?_); rintro e w' ⟨rfl, ⟨nd, rfl⟩⟩; refine ⟨_, rfl, ?_⟩; (try (rw [drewN_self wc]; generalize hq_ : World.drewN wc _ = wc; have n0_ : Aside0 (wc.heap[gb124]? = some (.cells #[.int .i64 0, .int .i64 0, .int .i64 0, .int .u16 0, .int .u16 0, .int .u16 0, .slice none 0 0, .slice none 0 0, .int .i64 0, .int .i64 0, .int .i64 0, .int .i64 0] 26 (0, 0))) := ⟨by rw [← hq_]; exact (by (with_reducible repeat (first | refine blk_drewN ?_ _ | refine blk_drew ?_ | refine blk_alloc ?_ _)); exact BK124.out)⟩; have n1_ : Aside0 (wc.heap[gb129]? = some (.cells #[.int .i64 0, .int .i64 x5_5, .int .i64 0, .int .u16 0, .int .u16 0, .int .u16 0, .slice none 0 0, .slice none 0 0, .int .i64 0, .int .i64 0, .int .i64 0, .int .i64 0] 26 (0, 0))) := ⟨by rw [← hq_]; exact (by (with_reducible repeat (first | refine blk_drewN ?_ _ | refine blk_drew ?_ | refine blk_alloc ?_ _)); exact BK129.out)⟩; have n2_ : Aside0 (Below w.heap.size w wc) := ⟨by rw [← hq_]; exact (by repeat (first | (with_reducible first | exact HB.out | apply below_alloc | apply pw_below_drewN | apply below_drew1 | refine below_set ?_ GE124.out | refine below_set ?_ GE129.out) | exact HB.out))⟩; clear BK124 BK129 HB hq_; have BK124 := n0_; have BK129 := n1_; have HB := n2_; clear n0_ n1_ n2_)); have hnb53 := NB129_124.out; have hnc53 := NB124_129.out; have hcz54_0 : wc.cell? ⟨gb129, 0, none⟩ = some (.int .i64 0) := (blk_cell BK129.out 0).trans rfl; have hcz54_1 : wc.cell? ⟨gb129, 1, none⟩ = some (.int .i64 x5_5) := (blk_cell BK129.out 1).trans rfl; have hcz54_2 : wc.cell? ⟨gb129, 2, none⟩ = some (.int .i64 0) := (blk_cell BK129.out 2).trans rfl; have hcz54_3 : wc.cell? ⟨gb129, 3, none⟩ = some (.int .u16 0) := (blk_cell BK129.out 3).trans rfl; have hcz54_4 : wc.cell? ⟨gb129, 4, none⟩ = some (.int .u16 0) := (blk_cell BK129.out 4).trans rfl; have hcz54_5 : wc.cell? ⟨gb129, 5, none⟩ = some (.int .u16 0) := (blk_cell BK129.out 5).trans rfl; have hcz54_6 : wc.cell? ⟨gb129, 6, none⟩ = some (.slice none 0 0) := (blk_cell BK129.out 6).trans rfl; have hcz54_7 : wc.cell? ⟨gb129, 7, none⟩ = some (.slice none 0 0) := (blk_cell BK129.out 7).trans rfl; have hcz54_8 : wc.cell? ⟨gb129, 8, none⟩ = some (.int .i64 0) := (blk_cell BK129.out 8).trans rfl; have hcz54_9 : wc.cell? ⟨gb129, 9, none⟩ = some (.int .i64 0) := (blk_cell BK129.out 9).trans rfl; have hcz54_10 : wc.cell? ⟨gb129, 10, none⟩ = some (.int .i64 0) := (blk_cell BK129.out 10).trans rfl; have hcz54_11 : wc.cell? ⟨gb129, 11, none⟩ = some (.int .i64 0) := (blk_cell BK129.out 11).trans rfl; have hfz54_0 := blk_frozen BK129.out 0; have hfz54_1 := blk_frozen BK129.out 1; have hfz54_2 := blk_frozen BK129.out 2; have hfz54_3 := blk_frozen BK129.out 3; have hfz54_4 := blk_frozen BK129.out 4; have hfz54_5 := blk_frozen BK129.out 5; have hfz54_6 := blk_frozen BK129.out 6; have hfz54_7 := blk_frozen BK129.out 7; have hfz54_8 := blk_frozen BK129.out 8; have hfz54_9 := blk_frozen BK129.out 9; have hfz54_10 := blk_frozen BK129.out 10; have hfz54_11 := blk_frozen BK129.out 11))
                go_meet
                case rel => exact ⟨_, (wrap64 (14 + (wrap64 (1 + t126)))), (t134), (by first | rfl | (simp; done) | (simp [*]; done)), H', ⟨by have := HJ5.out; have := HJ20.out; have := HJ39.out; first | omega | exact Nat.le_refl _⟩, ⟨by (with_reducible repeat (first | refine blk_drewN ?_ _ | refine blk_drew ?_ | refine blk_alloc ?_ _)); refine blk_far ?_ NB124_129.out _; (with_reducible repeat (first | refine blk_drewN ?_ _ | refine blk_drew ?_ | refine blk_alloc ?_ _)); exact BK124.out⟩, ⟨by (with_reducible repeat (first | refine blk_drewN ?_ _ | refine blk_drew ?_ | refine blk_alloc ?_ _)); refine blk_put (cs := #[.int .i64 0, .int .i64 x5_5, .int .i64 0, .int .u16 0, .int .u16 0, .int .u16 0, .slice none 0 0, .slice none 0 0, .int .i64 0, .int .i64 0, .int .i64 0, .int .i64 0]) ?_ 1 _ rfl; (with_reducible repeat (first | refine blk_drewN ?_ _ | refine blk_drew ?_ | refine blk_alloc ?_ _)); exact BK129.out⟩, ⟨by repeat (first | (with_reducible first | exact HB.out | apply below_alloc | apply pw_below_drewN | apply below_drew1 | refine below_set ?_ GE124.out | refine below_set ?_ GE129.out) | exact HB.out)⟩⟩
               ·
                rw [if_neg c51] at H
                have c51b0 : (t133 == 0) = false := beq_eq_false_iff_ne.mpr c51
                have c51b1 : (t133 != 0) = true := bne_iff_ne.mpr c51
                (first | rw [c51b0] | (simp only [i64_w, i32_w]; rw [c51b0]) | skip)
                have H' := Aside0.mk H
                clear H
                go_wp2
                go_meet
                case rel => exact ⟨_, ((wrap64 (1 + t126))), (x5_5), (by first | rfl | (simp; done) | (simp [*]; done)), H', ⟨by have := HJ5.out; have := HJ20.out; have := HJ39.out; first | omega | exact Nat.le_refl _⟩, ⟨by (with_reducible repeat (first | refine blk_drewN ?_ _ | refine blk_drew ?_ | refine blk_alloc ?_ _)); exact BK124.out⟩, ⟨by (with_reducible repeat (first | refine blk_drewN ?_ _ | refine blk_drew ?_ | refine blk_alloc ?_ _)); exact BK129.out⟩, ⟨by repeat (first | (with_reducible first | exact HB.out | apply below_alloc | apply pw_below_drewN | apply below_drew1 | refine below_set ?_ GE124.out | refine below_set ?_ GE129.out) | exact HB.out)⟩⟩
              case rest =>
               clear HC50
               try clear c1
               try clear c2
               try clear p2
               try clear c3
               try clear c4
               try clear c5
               try clear p6
               try clear c8
               try clear c8b0
               try clear c8b1
               try clear c11
               try clear c11b0
               try clear c11b1
               try clear c13
               try clear c15
               try clear c16
               try clear c16b0
               try clear c16b1
               try clear c18
               try clear c23
               try clear c25
               try clear c25b0
               try clear c25b1
               try clear c26
               try clear c26b0
               try clear c26b1
               try clear c27
               try clear c28
               try clear c31
               try clear c31b0
               try clear c31b1
               try clear c32
               try clear c35
               try clear c35b0
               try clear c35b1
               try clear c37
               try clear c41
               try clear c41b0
               try clear c41b1
               try clear c42
               try clear c42b0
               try clear c42b1
               try clear c43
               try clear c45
               try clear c48
               try clear c48b0
               try clear c48b1
               try clear c51
               try clear c51b0
               try clear c51b1
               try clear c53
               try clear hcz14_0
               try clear hcz14_1
               try clear hcz14_10
               try clear hcz14_11
               try clear hcz14_2
               try clear hcz14_3
               try clear hcz14_4
               try clear hcz14_5
               try clear hcz14_6
               try clear hcz14_7
               try clear hcz14_8
               try clear hcz14_9
               try clear hcz15_0
               try clear hcz15_1
               try clear hcz15_10
               try clear hcz15_11
               try clear hcz15_2
               try clear hcz15_3
               try clear hcz15_4
               try clear hcz15_5
               try clear hcz15_6
               try clear hcz15_7
               try clear hcz15_8
               try clear hcz15_9
               try clear hcz19_0
               try clear hcz19_1
               try clear hcz19_10
               try clear hcz19_11
               try clear hcz19_2
               try clear hcz19_3
               try clear hcz19_4
               try clear hcz19_5
               try clear hcz19_6
               try clear hcz19_7
               try clear hcz19_8
               try clear hcz19_9
               try clear hcz20_0
               try clear hcz20_1
               try clear hcz20_10
               try clear hcz20_11
               try clear hcz20_2
               try clear hcz20_3
               try clear hcz20_4
               try clear hcz20_5
               try clear hcz20_6
               try clear hcz20_7
               try clear hcz20_8
               try clear hcz20_9
               try clear hcz24_0
               try clear hcz24_1
               try clear hcz24_10
               try clear hcz24_11
               try clear hcz24_2
               try clear hcz24_3
               try clear hcz24_4
               try clear hcz24_5
               try clear hcz24_6
               try clear hcz24_7
               try clear hcz24_8
               try clear hcz24_9
               try clear hcz29_0
               try clear hcz29_1
               try clear hcz29_10
               try clear hcz29_11
               try clear hcz29_2
               try clear hcz29_3
               try clear hcz29_4
               try clear hcz29_5
               try clear hcz29_6
               try clear hcz29_7
               try clear hcz29_8
               try clear hcz29_9
               try clear hcz30_0
               try clear hcz30_1
               try clear hcz30_10
               try clear hcz30_11
               try clear hcz30_2
               try clear hcz30_3
               try clear hcz30_4
               try clear hcz30_5
               try clear hcz30_6
               try clear hcz30_7
               try clear hcz30_8
               try clear hcz30_9
               try clear hcz33_0
               try clear hcz33_1
               try clear hcz33_10
               try clear hcz33_11
               try clear hcz33_2
               try clear hcz33_3
               try clear hcz33_4
               try clear hcz33_5
               try clear hcz33_6
               try clear hcz33_7
               try clear hcz33_8
               try clear hcz33_9
               try clear hcz34_0
               try clear hcz34_1
               try clear hcz34_10
               try clear hcz34_11
               try clear hcz34_2
               try clear hcz34_3
               try clear hcz34_4
               try clear hcz34_5
               try clear hcz34_6
               try clear hcz34_7
               try clear hcz34_8
               try clear hcz34_9
               try clear hcz38_0
               try clear hcz38_1
               try clear hcz38_10
               try clear hcz38_11
               try clear hcz38_2
               try clear hcz38_3
               try clear hcz38_4
               try clear hcz38_5
               try clear hcz38_6
               try clear hcz38_7
               try clear hcz38_8
               try clear hcz38_9
               try clear hcz39_0
               try clear hcz39_1
               try clear hcz39_10
               try clear hcz39_11
               try clear hcz39_2
               try clear hcz39_3
               try clear hcz39_4
               try clear hcz39_5
               try clear hcz39_6
               try clear hcz39_7
               try clear hcz39_8
               try clear hcz39_9
               try clear hcz46_0
               try clear hcz46_1
               try clear hcz46_10
               try clear hcz46_11
               try clear hcz46_2
               try clear hcz46_3
               try clear hcz46_4
               try clear hcz46_5
               try clear hcz46_6
               try clear hcz46_7
               try clear hcz46_8
               try clear hcz46_9
               try clear hcz47_0
               try clear hcz47_1
               try clear hcz47_10
               try clear hcz47_11
               try clear hcz47_2
               try clear hcz47_3
               try clear hcz47_4
               try clear hcz47_5
               try clear hcz47_6
               try clear hcz47_7
               try clear hcz47_8
               try clear hcz47_9
               try clear hcz54_0
               try clear hcz54_1
               try clear hcz54_10
               try clear hcz54_11
               try clear hcz54_2
               try clear hcz54_3
               try clear hcz54_4
               try clear hcz54_5
               try clear hcz54_6
               try clear hcz54_7
               try clear hcz54_8
               try clear hcz54_9
               try clear hfz14_0
               try clear hfz14_1
               try clear hfz14_10
               try clear hfz14_11
               try clear hfz14_2
               try clear hfz14_3
               try clear hfz14_4
               try clear hfz14_5
               try clear hfz14_6
               try clear hfz14_7
               try clear hfz14_8
               try clear hfz14_9
               try clear hfz15_0
               try clear hfz15_1
               try clear hfz15_10
               try clear hfz15_11
               try clear hfz15_2
               try clear hfz15_3
               try clear hfz15_4
               try clear hfz15_5
               try clear hfz15_6
               try clear hfz15_7
               try clear hfz15_8
               try clear hfz15_9
               try clear hfz19_0
               try clear hfz19_1
               try clear hfz19_10
               try clear hfz19_11
               try clear hfz19_2
               try clear hfz19_3
               try clear hfz19_4
               try clear hfz19_5
               try clear hfz19_6
               try clear hfz19_7
               try clear hfz19_8
               try clear hfz19_9
               try clear hfz20_0
               try clear hfz20_1
               try clear hfz20_10
               try clear hfz20_11
               try clear hfz20_2
               try clear hfz20_3
               try clear hfz20_4
               try clear hfz20_5
               try clear hfz20_6
               try clear hfz20_7
               try clear hfz20_8
               try clear hfz20_9
               try clear hfz24_0
               try clear hfz24_1
               try clear hfz24_10
               try clear hfz24_11
               try clear hfz24_2
               try clear hfz24_3
               try clear hfz24_4
               try clear hfz24_5
               try clear hfz24_6
               try clear hfz24_7
               try clear hfz24_8
               try clear hfz24_9
               try clear hfz29_0
               try clear hfz29_1
               try clear hfz29_10
               try clear hfz29_11
               try clear hfz29_2
               try clear hfz29_3
               try clear hfz29_4
               try clear hfz29_5
               try clear hfz29_6
               try clear hfz29_7
               try clear hfz29_8
               try clear hfz29_9
               try clear hfz30_0
               try clear hfz30_1
               try clear hfz30_10
               try clear hfz30_11
               try clear hfz30_2
               try clear hfz30_3
               try clear hfz30_4
               try clear hfz30_5
               try clear hfz30_6
               try clear hfz30_7
               try clear hfz30_8
               try clear hfz30_9
               try clear hfz33_0
               try clear hfz33_1
               try clear hfz33_10
               try clear hfz33_11
               try clear hfz33_2
               try clear hfz33_3
               try clear hfz33_4
               try clear hfz33_5
               try clear hfz33_6
               try clear hfz33_7
               try clear hfz33_8
               try clear hfz33_9
               try clear hfz34_0
               try clear hfz34_1
               try clear hfz34_10
               try clear hfz34_11
               try clear hfz34_2
               try clear hfz34_3
               try clear hfz34_4
               try clear hfz34_5
               try clear hfz34_6
               try clear hfz34_7
               try clear hfz34_8
               try clear hfz34_9
               try clear hfz38_0
               try clear hfz38_1
               try clear hfz38_10
               try clear hfz38_11
               try clear hfz38_2
               try clear hfz38_3
               try clear hfz38_4
               try clear hfz38_5
               try clear hfz38_6
               try clear hfz38_7
               try clear hfz38_8
               try clear hfz38_9
               try clear hfz39_0
               try clear hfz39_1
               try clear hfz39_10
               try clear hfz39_11
               try clear hfz39_2
               try clear hfz39_3
               try clear hfz39_4
               try clear hfz39_5
               try clear hfz39_6
               try clear hfz39_7
               try clear hfz39_8
               try clear hfz39_9
               try clear hfz46_0
               try clear hfz46_1
               try clear hfz46_10
               try clear hfz46_11
               try clear hfz46_2
               try clear hfz46_3
               try clear hfz46_4
               try clear hfz46_5
               try clear hfz46_6
               try clear hfz46_7
               try clear hfz46_8
               try clear hfz46_9
               try clear hfz47_0
               try clear hfz47_1
               try clear hfz47_10
               try clear hfz47_11
               try clear hfz47_2
               try clear hfz47_3
               try clear hfz47_4
               try clear hfz47_5
               try clear hfz47_6
               try clear hfz47_7
               try clear hfz47_8
               try clear hfz47_9
               try clear hfz54_0
               try clear hfz54_1
               try clear hfz54_10
               try clear hfz54_11
               try clear hfz54_2
               try clear hfz54_3
               try clear hfz54_4
               try clear hfz54_5
               try clear hfz54_6
               try clear hfz54_7
               try clear hfz54_8
               try clear hfz54_9
               try clear p2
               try clear p6
               obtain ⟨kq, x6_49, x130001_49, rfl, HA, HJ49, BK124, BK129, HB⟩ := hcut
               cases kq with
               | zero => exact absurd HA.out (by simp [busbarlaw0_Ask.j3])
               | succ kj49 =>
                have H := HA.out
                clear HA
                simp only [busbarlaw0_Ask.j3] at H
                have H' := Aside0.mk H
                clear H
                have hnb55 := NB129_124.out
                have hnc55 := NB124_129.out
                have hcz56_0 : wc.cell? ⟨gb129, 0, none⟩ = some (.int .i64 0) := (blk_cell BK129.out 0).trans rfl
                have hcz56_1 : wc.cell? ⟨gb129, 1, none⟩ = some (.int .i64 x130001_49) := (blk_cell BK129.out 1).trans rfl
                have hcz56_2 : wc.cell? ⟨gb129, 2, none⟩ = some (.int .i64 0) := (blk_cell BK129.out 2).trans rfl
                have hcz56_3 : wc.cell? ⟨gb129, 3, none⟩ = some (.int .u16 0) := (blk_cell BK129.out 3).trans rfl
                have hcz56_4 : wc.cell? ⟨gb129, 4, none⟩ = some (.int .u16 0) := (blk_cell BK129.out 4).trans rfl
                have hcz56_5 : wc.cell? ⟨gb129, 5, none⟩ = some (.int .u16 0) := (blk_cell BK129.out 5).trans rfl
                have hcz56_6 : wc.cell? ⟨gb129, 6, none⟩ = some (.slice none 0 0) := (blk_cell BK129.out 6).trans rfl
                have hcz56_7 : wc.cell? ⟨gb129, 7, none⟩ = some (.slice none 0 0) := (blk_cell BK129.out 7).trans rfl
                have hcz56_8 : wc.cell? ⟨gb129, 8, none⟩ = some (.int .i64 0) := (blk_cell BK129.out 8).trans rfl
                have hcz56_9 : wc.cell? ⟨gb129, 9, none⟩ = some (.int .i64 0) := (blk_cell BK129.out 9).trans rfl
                have hcz56_10 : wc.cell? ⟨gb129, 10, none⟩ = some (.int .i64 0) := (blk_cell BK129.out 10).trans rfl
                have hcz56_11 : wc.cell? ⟨gb129, 11, none⟩ = some (.int .i64 0) := (blk_cell BK129.out 11).trans rfl
                have hfz56_0 := blk_frozen BK129.out 0
                have hfz56_1 := blk_frozen BK129.out 1
                have hfz56_2 := blk_frozen BK129.out 2
                have hfz56_3 := blk_frozen BK129.out 3
                have hfz56_4 := blk_frozen BK129.out 4
                have hfz56_5 := blk_frozen BK129.out 5
                have hfz56_6 := blk_frozen BK129.out 6
                have hfz56_7 := blk_frozen BK129.out 7
                have hfz56_8 := blk_frozen BK129.out 8
                have hfz56_9 := blk_frozen BK129.out 9
                have hfz56_10 := blk_frozen BK129.out 10
                have hfz56_11 := blk_frozen BK129.out 11
                go_wp2
                go_loopg [8] kj49 (fun kq v8 w' => ∃ (x8_5 : Int) (x130006_5 : List Bool) (u130006 : Value), v8 = .int .i64 x8_5 ∧ Aside0 (busbarlaw0_Ask.l0 kq a1 x6_49 x8_5 15 x130001_49 x6_49 0 0 0 x130006_5 0 0 0 0 = some (r1, r2, r3, r4, r5, r6, r7, r8, r9, r10, r11, r12)) ∧ Aside0 (kq ≤ kj49) ∧ Aside0 (Kd.R Kd.bool 4 w' w.heap.size (fun _ => True) u130006 x130006_5) ∧ Aside0 (w'.heap[gb124]? = some (.cells #[.int .i64 0, .int .i64 0, .int .i64 0, .int .u16 0, .int .u16 0, .int .u16 0, (.slice none 0 0), (.slice none 0 0), .int .i64 0, .int .i64 0, .int .i64 0, .int .i64 0] 26 (0, 0))) ∧ Aside0 (w'.heap[gb129]? = some (.cells #[.int .i64 15, .int .i64 x130001_49, .int .i64 x6_49, .int .u16 0, .int .u16 0, .int .u16 0, u130006, (.slice none 0 0), .int .i64 0, .int .i64 0, .int .i64 0, .int .i64 0] 26 (0, 0))) ∧ Aside0 (Below w.heap.size w w'))
                case atStart => exact ⟨(0), (([] : List Bool)), (.slice none 0 0), (by first | rfl | (simp; done) | (simp [*]; done)), H', ⟨Nat.le_refl _⟩, ⟨by first | exact Kd.R_nil _ _ _ _ _ | exact Kd.N_nil _ _ _ _ _ | exact Kd.V_nil _ _ _ _ _ | exact Kd.Q_nil _ _ _ _ _ | exact Kd.S_nil _ _ _ _ _⟩, ⟨by (with_reducible repeat (first | refine blk_drewN ?_ _ | refine blk_drew ?_ | refine blk_alloc ?_ _)); refine blk_far ?_ NB124_129.out _; (with_reducible repeat (first | refine blk_drewN ?_ _ | refine blk_drew ?_ | refine blk_alloc ?_ _)); refine blk_far ?_ NB124_129.out _; (with_reducible repeat (first | refine blk_drewN ?_ _ | refine blk_drew ?_ | refine blk_alloc ?_ _)); exact BK124.out⟩, ⟨by (with_reducible repeat (first | refine blk_drewN ?_ _ | refine blk_drew ?_ | refine blk_alloc ?_ _)); refine blk_put (cs := #[.int .i64 15, .int .i64 x130001_49, .int .i64 0, .int .u16 0, .int .u16 0, .int .u16 0, .slice none 0 0, .slice none 0 0, .int .i64 0, .int .i64 0, .int .i64 0, .int .i64 0]) ?_ 2 _ rfl; (with_reducible repeat (first | refine blk_drewN ?_ _ | refine blk_drew ?_ | refine blk_alloc ?_ _)); refine blk_put (cs := #[.int .i64 0, .int .i64 x130001_49, .int .i64 0, .int .u16 0, .int .u16 0, .int .u16 0, .slice none 0 0, .slice none 0 0, .int .i64 0, .int .i64 0, .int .i64 0, .int .i64 0]) ?_ 0 _ rfl; (with_reducible repeat (first | refine blk_drewN ?_ _ | refine blk_drew ?_ | refine blk_alloc ?_ _)); exact BK129.out⟩, ⟨by repeat (first | (with_reducible first | exact HB.out | apply below_alloc | apply pw_below_drewN | apply below_drew1 | refine below_set ?_ GE124.out | refine below_set ?_ GE129.out) | exact HB.out)⟩⟩
                case round =>
                 clear H'
                 try clear c1
                 try clear c2
                 try clear p2
                 try clear c3
                 try clear c4
                 try clear c5
                 try clear p6
                 try clear c8
                 try clear c8b0
                 try clear c8b1
                 try clear c11
                 try clear c11b0
                 try clear c11b1
                 try clear c13
                 try clear c15
                 try clear c16
                 try clear c16b0
                 try clear c16b1
                 try clear c18
                 try clear c23
                 try clear c25
                 try clear c25b0
                 try clear c25b1
                 try clear c26
                 try clear c26b0
                 try clear c26b1
                 try clear c27
                 try clear c28
                 try clear c31
                 try clear c31b0
                 try clear c31b1
                 try clear c32
                 try clear c35
                 try clear c35b0
                 try clear c35b1
                 try clear c37
                 try clear c41
                 try clear c41b0
                 try clear c41b1
                 try clear c42
                 try clear c42b0
                 try clear c42b1
                 try clear c43
                 try clear c45
                 try clear c48
                 try clear c48b0
                 try clear c48b1
                 try clear c51
                 try clear c51b0
                 try clear c51b1
                 try clear c53
                 try clear c55
                 try clear hcz14_0
                 try clear hcz14_1
                 try clear hcz14_10
                 try clear hcz14_11
                 try clear hcz14_2
                 try clear hcz14_3
                 try clear hcz14_4
                 try clear hcz14_5
                 try clear hcz14_6
                 try clear hcz14_7
                 try clear hcz14_8
                 try clear hcz14_9
                 try clear hcz15_0
                 try clear hcz15_1
                 try clear hcz15_10
                 try clear hcz15_11
                 try clear hcz15_2
                 try clear hcz15_3
                 try clear hcz15_4
                 try clear hcz15_5
                 try clear hcz15_6
                 try clear hcz15_7
                 try clear hcz15_8
                 try clear hcz15_9
                 try clear hcz19_0
                 try clear hcz19_1
                 try clear hcz19_10
                 try clear hcz19_11
                 try clear hcz19_2
                 try clear hcz19_3
                 try clear hcz19_4
                 try clear hcz19_5
                 try clear hcz19_6
                 try clear hcz19_7
                 try clear hcz19_8
                 try clear hcz19_9
                 try clear hcz20_0
                 try clear hcz20_1
                 try clear hcz20_10
                 try clear hcz20_11
                 try clear hcz20_2
                 try clear hcz20_3
                 try clear hcz20_4
                 try clear hcz20_5
                 try clear hcz20_6
                 try clear hcz20_7
                 try clear hcz20_8
                 try clear hcz20_9
                 try clear hcz24_0
                 try clear hcz24_1
                 try clear hcz24_10
                 try clear hcz24_11
                 try clear hcz24_2
                 try clear hcz24_3
                 try clear hcz24_4
                 try clear hcz24_5
                 try clear hcz24_6
                 try clear hcz24_7
                 try clear hcz24_8
                 try clear hcz24_9
                 try clear hcz29_0
                 try clear hcz29_1
                 try clear hcz29_10
                 try clear hcz29_11
                 try clear hcz29_2
                 try clear hcz29_3
                 try clear hcz29_4
                 try clear hcz29_5
                 try clear hcz29_6
                 try clear hcz29_7
                 try clear hcz29_8
                 try clear hcz29_9
                 try clear hcz30_0
                 try clear hcz30_1
                 try clear hcz30_10
                 try clear hcz30_11
                 try clear hcz30_2
                 try clear hcz30_3
                 try clear hcz30_4
                 try clear hcz30_5
                 try clear hcz30_6
                 try clear hcz30_7
                 try clear hcz30_8
                 try clear hcz30_9
                 try clear hcz33_0
                 try clear hcz33_1
                 try clear hcz33_10
                 try clear hcz33_11
                 try clear hcz33_2
                 try clear hcz33_3
                 try clear hcz33_4
                 try clear hcz33_5
                 try clear hcz33_6
                 try clear hcz33_7
                 try clear hcz33_8
                 try clear hcz33_9
                 try clear hcz34_0
                 try clear hcz34_1
                 try clear hcz34_10
                 try clear hcz34_11
                 try clear hcz34_2
                 try clear hcz34_3
                 try clear hcz34_4
                 try clear hcz34_5
                 try clear hcz34_6
                 try clear hcz34_7
                 try clear hcz34_8
                 try clear hcz34_9
                 try clear hcz38_0
                 try clear hcz38_1
                 try clear hcz38_10
                 try clear hcz38_11
                 try clear hcz38_2
                 try clear hcz38_3
                 try clear hcz38_4
                 try clear hcz38_5
                 try clear hcz38_6
                 try clear hcz38_7
                 try clear hcz38_8
                 try clear hcz38_9
                 try clear hcz39_0
                 try clear hcz39_1
                 try clear hcz39_10
                 try clear hcz39_11
                 try clear hcz39_2
                 try clear hcz39_3
                 try clear hcz39_4
                 try clear hcz39_5
                 try clear hcz39_6
                 try clear hcz39_7
                 try clear hcz39_8
                 try clear hcz39_9
                 try clear hcz46_0
                 try clear hcz46_1
                 try clear hcz46_10
                 try clear hcz46_11
                 try clear hcz46_2
                 try clear hcz46_3
                 try clear hcz46_4
                 try clear hcz46_5
                 try clear hcz46_6
                 try clear hcz46_7
                 try clear hcz46_8
                 try clear hcz46_9
                 try clear hcz47_0
                 try clear hcz47_1
                 try clear hcz47_10
                 try clear hcz47_11
                 try clear hcz47_2
                 try clear hcz47_3
                 try clear hcz47_4
                 try clear hcz47_5
                 try clear hcz47_6
                 try clear hcz47_7
                 try clear hcz47_8
                 try clear hcz47_9
                 try clear hcz54_0
                 try clear hcz54_1
                 try clear hcz54_10
                 try clear hcz54_11
                 try clear hcz54_2
                 try clear hcz54_3
                 try clear hcz54_4
                 try clear hcz54_5
                 try clear hcz54_6
                 try clear hcz54_7
                 try clear hcz54_8
                 try clear hcz54_9
                 try clear hcz56_0
                 try clear hcz56_1
                 try clear hcz56_10
                 try clear hcz56_11
                 try clear hcz56_2
                 try clear hcz56_3
                 try clear hcz56_4
                 try clear hcz56_5
                 try clear hcz56_6
                 try clear hcz56_7
                 try clear hcz56_8
                 try clear hcz56_9
                 try clear hfz14_0
                 try clear hfz14_1
                 try clear hfz14_10
                 try clear hfz14_11
                 try clear hfz14_2
                 try clear hfz14_3
                 try clear hfz14_4
                 try clear hfz14_5
                 try clear hfz14_6
                 try clear hfz14_7
                 try clear hfz14_8
                 try clear hfz14_9
                 try clear hfz15_0
                 try clear hfz15_1
                 try clear hfz15_10
                 try clear hfz15_11
                 try clear hfz15_2
                 try clear hfz15_3
                 try clear hfz15_4
                 try clear hfz15_5
                 try clear hfz15_6
                 try clear hfz15_7
                 try clear hfz15_8
                 try clear hfz15_9
                 try clear hfz19_0
                 try clear hfz19_1
                 try clear hfz19_10
                 try clear hfz19_11
                 try clear hfz19_2
                 try clear hfz19_3
                 try clear hfz19_4
                 try clear hfz19_5
                 try clear hfz19_6
                 try clear hfz19_7
                 try clear hfz19_8
                 try clear hfz19_9
                 try clear hfz20_0
                 try clear hfz20_1
                 try clear hfz20_10
                 try clear hfz20_11
                 try clear hfz20_2
                 try clear hfz20_3
                 try clear hfz20_4
                 try clear hfz20_5
                 try clear hfz20_6
                 try clear hfz20_7
                 try clear hfz20_8
                 try clear hfz20_9
                 try clear hfz24_0
                 try clear hfz24_1
                 try clear hfz24_10
                 try clear hfz24_11
                 try clear hfz24_2
                 try clear hfz24_3
                 try clear hfz24_4
                 try clear hfz24_5
                 try clear hfz24_6
                 try clear hfz24_7
                 try clear hfz24_8
                 try clear hfz24_9
                 try clear hfz29_0
                 try clear hfz29_1
                 try clear hfz29_10
                 try clear hfz29_11
                 try clear hfz29_2
                 try clear hfz29_3
                 try clear hfz29_4
                 try clear hfz29_5
                 try clear hfz29_6
                 try clear hfz29_7
                 try clear hfz29_8
                 try clear hfz29_9
                 try clear hfz30_0
                 try clear hfz30_1
                 try clear hfz30_10
                 try clear hfz30_11
                 try clear hfz30_2
                 try clear hfz30_3
                 try clear hfz30_4
                 try clear hfz30_5
                 try clear hfz30_6
                 try clear hfz30_7
                 try clear hfz30_8
                 try clear hfz30_9
                 try clear hfz33_0
                 try clear hfz33_1
                 try clear hfz33_10
                 try clear hfz33_11
                 try clear hfz33_2
                 try clear hfz33_3
                 try clear hfz33_4
                 try clear hfz33_5
                 try clear hfz33_6
                 try clear hfz33_7
                 try clear hfz33_8
                 try clear hfz33_9
                 try clear hfz34_0
                 try clear hfz34_1
                 try clear hfz34_10
                 try clear hfz34_11
                 try clear hfz34_2
                 try clear hfz34_3
                 try clear hfz34_4
                 try clear hfz34_5
                 try clear hfz34_6
                 try clear hfz34_7
                 try clear hfz34_8
                 try clear hfz34_9
                 try clear hfz38_0
                 try clear hfz38_1
                 try clear hfz38_10
                 try clear hfz38_11
                 try clear hfz38_2
                 try clear hfz38_3
                 try clear hfz38_4
                 try clear hfz38_5
                 try clear hfz38_6
                 try clear hfz38_7
                 try clear hfz38_8
                 try clear hfz38_9
                 try clear hfz39_0
                 try clear hfz39_1
                 try clear hfz39_10
                 try clear hfz39_11
                 try clear hfz39_2
                 try clear hfz39_3
                 try clear hfz39_4
                 try clear hfz39_5
                 try clear hfz39_6
                 try clear hfz39_7
                 try clear hfz39_8
                 try clear hfz39_9
                 try clear hfz46_0
                 try clear hfz46_1
                 try clear hfz46_10
                 try clear hfz46_11
                 try clear hfz46_2
                 try clear hfz46_3
                 try clear hfz46_4
                 try clear hfz46_5
                 try clear hfz46_6
                 try clear hfz46_7
                 try clear hfz46_8
                 try clear hfz46_9
                 try clear hfz47_0
                 try clear hfz47_1
                 try clear hfz47_10
                 try clear hfz47_11
                 try clear hfz47_2
                 try clear hfz47_3
                 try clear hfz47_4
                 try clear hfz47_5
                 try clear hfz47_6
                 try clear hfz47_7
                 try clear hfz47_8
                 try clear hfz47_9
                 try clear hfz54_0
                 try clear hfz54_1
                 try clear hfz54_10
                 try clear hfz54_11
                 try clear hfz54_2
                 try clear hfz54_3
                 try clear hfz54_4
                 try clear hfz54_5
                 try clear hfz54_6
                 try clear hfz54_7
                 try clear hfz54_8
                 try clear hfz54_9
                 try clear hfz56_0
                 try clear hfz56_1
                 try clear hfz56_10
                 try clear hfz56_11
                 try clear hfz56_2
                 try clear hfz56_3
                 try clear hfz56_4
                 try clear hfz56_5
                 try clear hfz56_6
                 try clear hfz56_7
                 try clear hfz56_8
                 try clear hfz56_9
                 try clear p2
                 try clear p6
                 obtain ⟨x8_5, x130006_5, u130006, rfl, HA, HK5, HO_130006, BK124, BK129, HB⟩ := hrel
                 cases gk with
                 | zero => exact absurd HA.out (by simp [busbarlaw0_Ask.l0])
                 | succ k5 =>
                  have H := HA.out
                  clear HA
                  simp only [busbarlaw0_Ask.l0] at H
                  by_cases c57 : x8_5 < x6_49
                  ·
                   rw [if_pos c57] at H
                   have c57b0 : decide (x8_5 < x6_49) = true := decide_eq_true c57
                   clear c57
                   replace H := Option.bind_eq_some_iff.mp H
                   obtain ⟨t135, A580, H⟩ := H
                   replace H : (if x130006_5.length < 140737488355328 then (busbarlaw0_Ask.l0 k5 a1 x6_49 (wrap64 (x8_5 + 1)) 15 x130001_49 x6_49 0 0 0 (x130006_5 ++ [((Int.tmod t135 2) == 1)]) 0 0 0 0) else (none)) = some (r1, r2, r3, r4, r5, r6, r7, r8, r9, r10, r11, r12) := H
                   have A58 := Aside0.mk A580
                   clear A580
                   by_cases c59 : x130006_5.length < 140737488355328
                   ·
                    rw [if_pos c59] at H
                    have LMc59 := Aside0.mk c59
                    clear c59
                    obtain ⟨y136, hy136⟩ : ∃ y_ : List Bool, y_ = (x130006_5 ++ [((Int.tmod t135 2) == 1)]) := ⟨_, rfl⟩
                    replace H : (busbarlaw0_Ask.l0 k5 a1 x6_49 (wrap64 (x8_5 + 1)) 15 x130001_49 x6_49 0 0 0 y136 0 0 0 0) = some (r1, r2, r3, r4, r5, r6, r7, r8, r9, r10, r11, r12) := by first | (rw [hy136]; with_reducible exact H) | (have H2_ := (Option.bind_some _ _).symm.trans H; rw [hy136]; with_reducible exact H2_) | (have H2_ := (Option.bind_some _ _).symm.trans H; with_reducible exact H2_) | with_reducible exact H | (rw [hy136]; exact H) | exact H
                    have Ny136 := Aside0.mk hy136
                    clear hy136
                    have H' := Aside0.mk H
                    clear H
                    try go_wp2
                    have n0_ := Aside0.mk (Kd.R_drew HO_130006.out)
                    have n1_ := Aside0.mk (blk_drew BK124.out)
                    have n2_ := Aside0.mk (blk_drew BK129.out)
                    have n3_ := Aside0.mk (below_drew1 HB.out)
                    clear HO_130006
                    clear BK124
                    clear BK129
                    clear HB
                    have HO_130006 := n0_
                    have BK124 := n1_
                    have BK129 := n2_
                    have HB := n3_
                    clear n0_ n1_ n2_ n3_
                    refine start_ (n := 12) (S := fun w' => w'.cell? ⟨gb129, 0, none⟩ = some (.int .i64 15) ∧ w'.cell? ⟨gb129, 1, none⟩ = some (.int .i64 x130001_49) ∧ w'.cell? ⟨gb129, 2, none⟩ = some (.int .i64 x6_49) ∧ w'.cell? ⟨gb129, 3, none⟩ = some (.int .u16 0) ∧ w'.cell? ⟨gb129, 4, none⟩ = some (.int .u16 0) ∧ w'.cell? ⟨gb129, 5, none⟩ = some (.int .u16 0) ∧ w'.cell? ⟨gb129, 6, none⟩ = some (u130006) ∧ w'.cell? ⟨gb129, 7, none⟩ = some (.slice none 0 0) ∧ w'.cell? ⟨gb129, 8, none⟩ = some (.int .i64 0) ∧ w'.cell? ⟨gb129, 9, none⟩ = some (.int .i64 0) ∧ w'.cell? ⟨gb129, 10, none⟩ = some (.int .i64 0) ∧ w'.cell? ⟨gb129, 11, none⟩ = some (.int .i64 0)) (ds := [11]) #[false, false, false, false, false, false, false, false, false, false, false, false] (by kernel_rfl) rfl rfl ⟨(blk_cell BK129.out 0).trans rfl, (blk_cell BK129.out 1).trans rfl, (blk_cell BK129.out 2).trans rfl, (blk_cell BK129.out 3).trans rfl, (blk_cell BK129.out 4).trans rfl, (blk_cell BK129.out 5).trans rfl, (blk_cell BK129.out 6).trans rfl, (blk_cell BK129.out 7).trans rfl, (blk_cell BK129.out 8).trans rfl, (blk_cell BK129.out 9).trans rfl, (blk_cell BK129.out 10).trans rfl, (blk_cell BK129.out 11).trans rfl⟩ (fun hHeld => ?_); refine with_tabW busbarlaw0_Ask.tab30 busbarlaw0_Ask.bits30 (fun HT_ HW_ => ?_)
                    generalize wr.drew = w60 at HO_130006 BK124 BK129 HB hHeld ⊢
                    refine pure_ (i := 0) (N := some 85) (v := ?_) (a' := ?_) #[true, false, false, false, false, false, false, false, false, false, false, false] rfl rfl (any_of HT_.out (by kernel_rfl)) (fun _ _ _ h => h) (Or.inl ⟨by rfl, ?_⟩) ?_ ?_
                    rotate_left
                    ·
                     intro w'
                     go_simp
                     with_reducible rfl
                    rotate_left
                    ·
                     simp only [Act.put, List.setIfInBounds_toArray, List.set_cons_zero, List.set_cons_succ, i64_w, i32_w]
                     rfl
                    refine pure_ (i := 2) (N := some 87) (v := ?_) (a' := ?_) #[true, false, true, false, false, false, false, false, false, false, false, false] rfl rfl (any_of HT_.out (by kernel_rfl)) (fun _ _ _ h => h) (Or.inl ⟨by rfl, ?_⟩) ?_ ?_
                    rotate_left
                    ·
                     intro w'
                     go_simp
                     with_reducible rfl
                    rotate_left
                    ·
                     simp only [Act.put, List.setIfInBounds_toArray, List.set_cons_zero, List.set_cons_succ, i64_w, i32_w]
                     rfl
                    refine pure_ (i := 3) (N := some 88) (v := ?_) (a' := ?_) #[true, false, true, true, false, false, false, false, false, false, false, false] rfl rfl (any_of HT_.out (by kernel_rfl)) (fun _ _ _ h => h) (Or.inl ⟨by rfl, ?_⟩) ?_ ?_
                    rotate_left
                    ·
                     intro w'
                     go_simp
                     with_reducible rfl
                    rotate_left
                    ·
                     simp only [Act.put, List.setIfInBounds_toArray, List.set_cons_zero, List.set_cons_succ, i64_w, i32_w]
                     rfl
                    refine pure_ (i := 4) (N := some 89) (v := ?_) (a' := ?_) #[true, false, true, true, true, false, false, false, false, false, false, false] rfl rfl (any_of HT_.out (by kernel_rfl)) (fun _ _ _ h => h) (Or.inl ⟨by rfl, ?_⟩) ?_ ?_
                    rotate_left
                    ·
                     intro w'
                     go_simp
                     with_reducible rfl
                    rotate_left
                    ·
                     simp only [Act.put, List.setIfInBounds_toArray, List.set_cons_zero, List.set_cons_succ, i64_w, i32_w]
                     rfl
                    refine take_ (i := 1) (N := some 86) (v := ?_) (a' := ?_) #[true, true, true, true, true, false, false, false, false, false, false, false] rfl rfl (take_ofW HT_.out HW_.out (by kernel_rfl)) (fun _ _ _ h => h) (Or.inl ⟨by rfl, ?_⟩) hHeld ?_ ?_
                    rotate_left
                    ·
                     rintro w' ⟨s0, s1, s2, s3, s4, s5, s6, s7, s8, s9, s10, s11⟩
                     go_simp
                     with_reducible rfl
                    rotate_left
                    ·
                     simp only [Act.put, List.setIfInBounds_toArray, List.set_cons_zero, List.set_cons_succ, i64_w, i32_w]
                     rfl
                    refine one_ (i := 5) (N := some 90) #[true, true, true, true, true, true, false, false, false, false, false, false] rfl rfl (one_of HT_.out (by kernel_rfl)) (by decide) (fun K hK => ?_)
                    refine goes_ Try.func16 (by kernel_rfl) rfl #[.int .i64 a1, .int .i64 (wrap64 (7 + x8_5))] (by rfl) rfl rfl (by (try simp only [List.map_toArray, List.map_cons, List.map_nil]); first | done | rfl | (simp only [List.length_drop, List.length_take]; rfl)) ?_
                    with_reducible refine (busbarlaw0_Within.calls a1 (wrap64 (7 + x8_5)) t135 _ A58.out).mono ?_
                    rintro e w' ⟨rfl, ⟨nd, rfl⟩⟩
                    refine ⟨_, rfl, ?_⟩
                    refine hK.out _ _ ⟨(blk_cell BK129.out 0).trans rfl, (blk_cell BK129.out 1).trans rfl, (blk_cell BK129.out 2).trans rfl, (blk_cell BK129.out 3).trans rfl, (blk_cell BK129.out 4).trans rfl, (blk_cell BK129.out 5).trans rfl, (blk_cell BK129.out 6).trans rfl, (blk_cell BK129.out 7).trans rfl, (blk_cell BK129.out 8).trans rfl, (blk_cell BK129.out 9).trans rfl, (blk_cell BK129.out 10).trans rfl, (blk_cell BK129.out 11).trans rfl⟩ (fun hHeld => ?_)
                    clear hK K
                    refine norm_ (a' := ?_) ?_ ?_
                    rotate_left
                    ·
                     show Act.put _ (some 90) _ = _
                     simp only [Act.put, List.setIfInBounds_toArray, List.set_cons_zero, List.set_cons_succ, i64_w, i32_w]
                     rfl
                    refine pure_ (i := 6) (N := some 91) (v := ?_) (a' := ?_) #[true, true, true, true, true, true, true, false, false, false, false, false] rfl rfl (any_of HT_.out (by kernel_rfl)) (fun _ _ _ h => h) (Or.inl ⟨by rfl, ?_⟩) ?_ ?_
                    rotate_left
                    ·
                     intro w'
                     go_simp
                     with_reducible rfl
                    rotate_left
                    ·
                     simp only [Act.put, List.setIfInBounds_toArray, List.set_cons_zero, List.set_cons_succ, i64_w, i32_w]
                     rfl
                    refine pure_ (i := 7) (N := some 92) (v := ?_) (a' := ?_) #[true, true, true, true, true, true, true, true, false, false, false, false] rfl rfl (any_of HT_.out (by kernel_rfl)) (fun _ _ _ h => h) (Or.inl ⟨by rfl, ?_⟩) ?_ ?_
                    rotate_left
                    ·
                     intro w'
                     go_simp
                     with_reducible rfl
                    rotate_left
                    ·
                     simp only [Act.put, List.setIfInBounds_toArray, List.set_cons_zero, List.set_cons_succ, i64_w, i32_w]
                     rfl
                    refine one_ (i := 8) (N := some 93) #[true, true, true, true, true, true, true, true, true, false, false, false] rfl rfl (one_of HT_.out (by kernel_rfl)) (by decide) (fun K hK => ?_)
                    refine value_ (w1 := ?_) (v := ?_) (by rfl) rfl ?_ ?_
                    rotate_left 2
                    ·
                     go_simp
                     constructor
                     ·
                      rfl
                     ·
                      rfl
                    refine hK.out _ _ ⟨(blk_cell (blk_alloc BK129.out _) 0).trans rfl, (blk_cell (blk_alloc BK129.out _) 1).trans rfl, (blk_cell (blk_alloc BK129.out _) 2).trans rfl, (blk_cell (blk_alloc BK129.out _) 3).trans rfl, (blk_cell (blk_alloc BK129.out _) 4).trans rfl, (blk_cell (blk_alloc BK129.out _) 5).trans rfl, (blk_cell (blk_alloc BK129.out _) 6).trans rfl, (blk_cell (blk_alloc BK129.out _) 7).trans rfl, (blk_cell (blk_alloc BK129.out _) 8).trans rfl, (blk_cell (blk_alloc BK129.out _) 9).trans rfl, (blk_cell (blk_alloc BK129.out _) 10).trans rfl, (blk_cell (blk_alloc BK129.out _) 11).trans rfl⟩ (fun hHeld => ?_)
                    clear hK K
                    refine norm_ (a' := ?_) ?_ ?_
                    rotate_left
                    ·
                     show Act.put _ (some 93) _ = _
                     simp only [Act.put, List.setIfInBounds_toArray, List.set_cons_zero, List.set_cons_succ, i64_w, i32_w]
                     rfl
                    refine one_ (i := 9) (N := some 94) #[true, true, true, true, true, true, true, true, true, true, false, false] rfl rfl (one_of HT_.out (by kernel_rfl)) (by decide) (fun K hK => ?_)
                    refine Kd.R_append_step Kd.bool (w0 := w) w.heap.size (by rfl) (.tmp 86) (.tmp 93) 23 4 (.bool false) 1 rfl Try.underlying23 info4 rfl (by decide) (by omega) u130006 x130006_5 ((Int.tmod t135 2) == 1) [.bool ((Int.tmod t135 2) == 1)] (fun _ => True) (fun _ => False) rfl rfl ?aP (fun _ hk => hk.elim) ?aF ?aO ?aB ?aS ?aL ?_
                    (case aP => exact rfl)
                    (case aB => exact (by repeat (first | (with_reducible first | exact HB.out | apply below_alloc | apply pw_below_drewN | apply below_drew1 | refine below_set ?_ GE124.out | refine below_set ?_ GE129.out) | exact HB.out)))
                    (case aF => exact (fun _ _ => trivial))
                    (case aO => exact (by (with_reducible repeat (first | apply Kd.R_alloc | apply Kd.R_drewN | apply Kd.R_drew)); exact HO_130006.out))
                    (case aS => exact (below_size (by repeat (first | (with_reducible first | exact HB.out | apply below_alloc | apply pw_below_drewN | apply below_drew1 | refine below_set ?_ GE124.out | refine below_set ?_ GE129.out) | exact HB.out))))
                    (case aL => have := LMc59.out; omega)
                    intro v137 w61 ho hb hg hat
                    rw [← Ny136.out] at ho
                    have n0_ := Aside0.mk (blk_grown (g := gb124) (o := .cells #[.int .i64 0, .int .i64 0, .int .i64 0, .int .u16 0, .int .u16 0, .int .u16 0, .slice none 0 0, .slice none 0 0, .int .i64 0, .int .i64 0, .int .i64 0, .int .i64 0] 26 (0, 0)) (by (with_reducible repeat (first | refine blk_drewN ?_ _ | refine blk_drew ?_ | refine blk_alloc ?_ _)); exact BK124.out) hg (Kd.R_ne HO_130006.out BK124.out (by decide)))
                    have n1_ := Aside0.mk (blk_grown (g := gb129) (o := .cells #[.int .i64 15, .int .i64 x130001_49, .int .i64 x6_49, .int .u16 0, .int .u16 0, .int .u16 0, u130006, .slice none 0 0, .int .i64 0, .int .i64 0, .int .i64 0, .int .i64 0] 26 (0, 0)) (by (with_reducible repeat (first | refine blk_drewN ?_ _ | refine blk_drew ?_ | refine blk_alloc ?_ _)); exact BK129.out) hg (Kd.R_ne HO_130006.out BK129.out (by decide)))
                    have n2_ := Aside0.mk (hb)
                    have n3_ := Aside0.mk (ho)
                    clear BK124
                    clear BK129
                    clear HB
                    clear HO_130006
                    have BK124 := n0_
                    have BK129 := n1_
                    have HB := n2_
                    have HO138 := n3_
                    clear n0_ n1_ n2_ n3_
                    clear ho hb hg hat
                    obtain ⟨Ao62, co62, eo62⟩ := Kd.R_slice HO138.out
                    (first | subst eo62 | (injection eo62 with f1_ f2_ f3_; have f4_ := f1_.symm; have f5_ := f3_.symm; clear f1_ f2_ f3_; subst f4_; subst f5_))
                    refine hK.out _ _ ⟨(blk_cell BK129.out 0).trans rfl, (blk_cell BK129.out 1).trans rfl, (blk_cell BK129.out 2).trans rfl, (blk_cell BK129.out 3).trans rfl, (blk_cell BK129.out 4).trans rfl, (blk_cell BK129.out 5).trans rfl, (blk_cell BK129.out 6).trans rfl, (blk_cell BK129.out 7).trans rfl, (blk_cell BK129.out 8).trans rfl, (blk_cell BK129.out 9).trans rfl, (blk_cell BK129.out 10).trans rfl, (blk_cell BK129.out 11).trans rfl⟩ (fun hHeld => ?_)
                    clear hK K
                    refine norm_ (a' := ?_) ?_ ?_
                    rotate_left
                    ·
                     show Act.put _ (some 94) _ = _
                     simp only [Act.put, List.setIfInBounds_toArray, List.set_cons_zero, List.set_cons_succ, i64_w, i32_w]
                     rfl
                    refine pure_ (i := 10) (N := some 95) (v := ?_) (a' := ?_) #[true, true, true, true, true, true, true, true, true, true, true, false] rfl rfl (any_of HT_.out (by kernel_rfl)) (fun _ _ _ h => h) (Or.inl ⟨by rfl, ?_⟩) ?_ ?_
                    rotate_left
                    ·
                     intro w'
                     go_simp
                     with_reducible rfl
                    rotate_left
                    ·
                     simp only [Act.put, List.setIfInBounds_toArray, List.set_cons_zero, List.set_cons_succ, i64_w, i32_w]
                     rfl
                    refine last_ (i := 11) (N := none) #[true, true, true, true, true, true, true, true, true, true, true, true] rfl rfl (one_of HT_.out (by kernel_rfl)) (by decide) (fun K hK => ?_)
                    have hs63 : w61.cell? ⟨gb129, 6, none⟩ = some (u130006) := (blk_cell BK129.out 6).trans rfl
                    have hfs63 := blk_frozen BK129.out 6
                    have hns63_0 := NB124_129.out
                    have hms63_0 := NB129_124.out
                    refine skip_ (w1 := ?_) (by rfl) rfl ?_ ?_
                    rotate_left
                    ·
                     go_simp
                     rfl
                    refine hK.out _ _ ?_
                    clear hK K
                    refine done_ (done_of HT_.out (by kernel_rfl)) ?_
                    try go_wp2
                    go_roundg k5
                    case measure => have := HJ5.out; have := HJ20.out; have := HJ39.out; have := HJ49.out; have := HK5.out; omega
                    case rel => exact ⟨(wrap64 (x8_5 + 1)), (y136), (.slice Ao62 y136.length co62), (by first | rfl | (simp; done) | (simp [*]; done)), H', ⟨by have := HJ5.out; have := HJ20.out; have := HJ39.out; have := HJ49.out; have := HK5.out; omega⟩, ⟨by (with_reducible repeat (first | apply Kd.R_alloc | apply Kd.R_drewN | apply Kd.R_drew)); exact Kd.R_mono (Kd.R_far (p := ⟨gb129, 6, none⟩) (Kd.R_types HO138.out BK129.out (by decide)) (fun _ hk => hk.2) (.slice Ao62 y136.length co62)) (fun _ hk => trivial)⟩, ⟨by (with_reducible repeat (first | refine blk_drewN ?_ _ | refine blk_drew ?_ | refine blk_alloc ?_ _)); refine blk_far ?_ NB124_129.out _; (with_reducible repeat (first | refine blk_drewN ?_ _ | refine blk_drew ?_ | refine blk_alloc ?_ _)); exact BK124.out⟩, ⟨by (with_reducible repeat (first | refine blk_drewN ?_ _ | refine blk_drew ?_ | refine blk_alloc ?_ _)); refine blk_put (cs := #[.int .i64 15, .int .i64 x130001_49, .int .i64 x6_49, .int .u16 0, .int .u16 0, .int .u16 0, u130006, .slice none 0 0, .int .i64 0, .int .i64 0, .int .i64 0, .int .i64 0]) ?_ 6 _ rfl; (with_reducible repeat (first | refine blk_drewN ?_ _ | refine blk_drew ?_ | refine blk_alloc ?_ _)); exact BK129.out⟩, ⟨by repeat (first | (with_reducible first | exact HB.out | apply below_alloc | apply pw_below_drewN | apply below_drew1 | refine below_set ?_ GE124.out | refine below_set ?_ GE129.out) | exact HB.out)⟩⟩
                   ·
                    rw [if_neg c59] at H
                    exact absurd H (by simp)
                  ·
                   rw [if_neg c57] at H
                   have c57b0 : decide (x8_5 < x6_49) = false := decide_eq_false c57
                   clear c57
                   simp only [Option.some.injEq, Prod.mk.injEq] at H
                   obtain ⟨rfl, rfl, rfl, rfl, rfl, rfl, rfl, rfl, rfl, rfl, rfl, rfl⟩ := H
                   have hnb64 := NB129_124.out
                   have hnc64 := NB124_129.out
                   have hcz65_0 : wr.cell? ⟨gb129, 0, none⟩ = some (.int .i64 15) := (blk_cell BK129.out 0).trans rfl
                   have hcz65_1 : wr.cell? ⟨gb129, 1, none⟩ = some (.int .i64 x130001_49) := (blk_cell BK129.out 1).trans rfl
                   have hcz65_2 : wr.cell? ⟨gb129, 2, none⟩ = some (.int .i64 x6_49) := (blk_cell BK129.out 2).trans rfl
                   have hcz65_3 : wr.cell? ⟨gb129, 3, none⟩ = some (.int .u16 0) := (blk_cell BK129.out 3).trans rfl
                   have hcz65_4 : wr.cell? ⟨gb129, 4, none⟩ = some (.int .u16 0) := (blk_cell BK129.out 4).trans rfl
                   have hcz65_5 : wr.cell? ⟨gb129, 5, none⟩ = some (.int .u16 0) := (blk_cell BK129.out 5).trans rfl
                   have hcz65_6 : wr.cell? ⟨gb129, 6, none⟩ = some (u130006) := (blk_cell BK129.out 6).trans rfl
                   have hcz65_7 : wr.cell? ⟨gb129, 7, none⟩ = some (.slice none 0 0) := (blk_cell BK129.out 7).trans rfl
                   have hcz65_8 : wr.cell? ⟨gb129, 8, none⟩ = some (.int .i64 0) := (blk_cell BK129.out 8).trans rfl
                   have hcz65_9 : wr.cell? ⟨gb129, 9, none⟩ = some (.int .i64 0) := (blk_cell BK129.out 9).trans rfl
                   have hcz65_10 : wr.cell? ⟨gb129, 10, none⟩ = some (.int .i64 0) := (blk_cell BK129.out 10).trans rfl
                   have hcz65_11 : wr.cell? ⟨gb129, 11, none⟩ = some (.int .i64 0) := (blk_cell BK129.out 11).trans rfl
                   have hfz65_0 := blk_frozen BK129.out 0
                   have hfz65_1 := blk_frozen BK129.out 1
                   have hfz65_2 := blk_frozen BK129.out 2
                   have hfz65_3 := blk_frozen BK129.out 3
                   have hfz65_4 := blk_frozen BK129.out 4
                   have hfz65_5 := blk_frozen BK129.out 5
                   have hfz65_6 := blk_frozen BK129.out 6
                   have hfz65_7 := blk_frozen BK129.out 7
                   have hfz65_8 := blk_frozen BK129.out 8
                   have hfz65_9 := blk_frozen BK129.out 9
                   have hfz65_10 := blk_frozen BK129.out 10
                   have hfz65_11 := blk_frozen BK129.out 11
                   have hcz66_0 : wr.cell? ⟨gb124, 0, none⟩ = some (.int .i64 0) := (blk_cell BK124.out 0).trans rfl
                   have hcz66_1 : wr.cell? ⟨gb124, 1, none⟩ = some (.int .i64 0) := (blk_cell BK124.out 1).trans rfl
                   have hcz66_2 : wr.cell? ⟨gb124, 2, none⟩ = some (.int .i64 0) := (blk_cell BK124.out 2).trans rfl
                   have hcz66_3 : wr.cell? ⟨gb124, 3, none⟩ = some (.int .u16 0) := (blk_cell BK124.out 3).trans rfl
                   have hcz66_4 : wr.cell? ⟨gb124, 4, none⟩ = some (.int .u16 0) := (blk_cell BK124.out 4).trans rfl
                   have hcz66_5 : wr.cell? ⟨gb124, 5, none⟩ = some (.int .u16 0) := (blk_cell BK124.out 5).trans rfl
                   have hcz66_6 : wr.cell? ⟨gb124, 6, none⟩ = some (.slice none 0 0) := (blk_cell BK124.out 6).trans rfl
                   have hcz66_7 : wr.cell? ⟨gb124, 7, none⟩ = some (.slice none 0 0) := (blk_cell BK124.out 7).trans rfl
                   have hcz66_8 : wr.cell? ⟨gb124, 8, none⟩ = some (.int .i64 0) := (blk_cell BK124.out 8).trans rfl
                   have hcz66_9 : wr.cell? ⟨gb124, 9, none⟩ = some (.int .i64 0) := (blk_cell BK124.out 9).trans rfl
                   have hcz66_10 : wr.cell? ⟨gb124, 10, none⟩ = some (.int .i64 0) := (blk_cell BK124.out 10).trans rfl
                   have hcz66_11 : wr.cell? ⟨gb124, 11, none⟩ = some (.int .i64 0) := (blk_cell BK124.out 11).trans rfl
                   have hfz66_0 := blk_frozen BK124.out 0
                   have hfz66_1 := blk_frozen BK124.out 1
                   have hfz66_2 := blk_frozen BK124.out 2
                   have hfz66_3 := blk_frozen BK124.out 3
                   have hfz66_4 := blk_frozen BK124.out 4
                   have hfz66_5 := blk_frozen BK124.out 5
                   have hfz66_6 := blk_frozen BK124.out 6
                   have hfz66_7 := blk_frozen BK124.out 7
                   have hfz66_8 := blk_frozen BK124.out 8
                   have hfz66_9 := blk_frozen BK124.out 9
                   have hfz66_10 := blk_frozen BK124.out 10
                   have hfz66_11 := blk_frozen BK124.out 11
                   obtain ⟨Ao67, co67, eo67⟩ := Kd.R_slice HO_130006.out
                   subst eo67
                   go_wp2
                   refine bodyPost_ret (results_cell_row rfl _ _ gb124 26 #[.int .i64 15, .int .i64 x130001_49, .int .i64 x6_49, .int .u16 0, .int .u16 0, .int .u16 0, .slice Ao67 x130006_5.length co67, .slice none 0 0, .int .i64 0, .int .i64 0, .int .i64 0, .int .i64 0] (0, 0) _ rfl (by (with_reducible repeat (first | refine blk_drewN ?_ _ | refine blk_drew ?_ | refine blk_alloc ?_ _)); refine blk_put (cs := #[.int .i64 15, .int .i64 x130001_49, .int .i64 x6_49, .int .u16 0, .int .u16 0, .int .u16 0, .slice Ao67 x130006_5.length co67, .slice none 0 0, .int .i64 0, .int .i64 0, .int .i64 0, .int .i64 0]) ?_ 11 _ rfl; (with_reducible repeat (first | refine blk_drewN ?_ _ | refine blk_drew ?_ | refine blk_alloc ?_ _)); refine blk_put (cs := #[.int .i64 15, .int .i64 x130001_49, .int .i64 x6_49, .int .u16 0, .int .u16 0, .int .u16 0, .slice Ao67 x130006_5.length co67, .slice none 0 0, .int .i64 0, .int .i64 0, .int .i64 0, .int .i64 0]) ?_ 10 _ rfl; (with_reducible repeat (first | refine blk_drewN ?_ _ | refine blk_drew ?_ | refine blk_alloc ?_ _)); refine blk_put (cs := #[.int .i64 15, .int .i64 x130001_49, .int .i64 x6_49, .int .u16 0, .int .u16 0, .int .u16 0, .slice Ao67 x130006_5.length co67, .slice none 0 0, .int .i64 0, .int .i64 0, .int .i64 0, .int .i64 0]) ?_ 9 _ rfl; (with_reducible repeat (first | refine blk_drewN ?_ _ | refine blk_drew ?_ | refine blk_alloc ?_ _)); refine blk_put (cs := #[.int .i64 15, .int .i64 x130001_49, .int .i64 x6_49, .int .u16 0, .int .u16 0, .int .u16 0, .slice Ao67 x130006_5.length co67, .slice none 0 0, .int .i64 0, .int .i64 0, .int .i64 0, .int .i64 0]) ?_ 8 _ rfl; (with_reducible repeat (first | refine blk_drewN ?_ _ | refine blk_drew ?_ | refine blk_alloc ?_ _)); refine blk_put (cs := #[.int .i64 15, .int .i64 x130001_49, .int .i64 x6_49, .int .u16 0, .int .u16 0, .int .u16 0, .slice Ao67 x130006_5.length co67, .slice none 0 0, .int .i64 0, .int .i64 0, .int .i64 0, .int .i64 0]) ?_ 7 _ rfl; (with_reducible repeat (first | refine blk_drewN ?_ _ | refine blk_drew ?_ | refine blk_alloc ?_ _)); refine blk_put (cs := #[.int .i64 15, .int .i64 x130001_49, .int .i64 x6_49, .int .u16 0, .int .u16 0, .int .u16 0, .slice none 0 0, .slice none 0 0, .int .i64 0, .int .i64 0, .int .i64 0, .int .i64 0]) ?_ 6 _ rfl; (with_reducible repeat (first | refine blk_drewN ?_ _ | refine blk_drew ?_ | refine blk_alloc ?_ _)); refine blk_put (cs := #[.int .i64 15, .int .i64 x130001_49, .int .i64 x6_49, .int .u16 0, .int .u16 0, .int .u16 0, .slice none 0 0, .slice none 0 0, .int .i64 0, .int .i64 0, .int .i64 0, .int .i64 0]) ?_ 5 _ rfl; (with_reducible repeat (first | refine blk_drewN ?_ _ | refine blk_drew ?_ | refine blk_alloc ?_ _)); refine blk_put (cs := #[.int .i64 15, .int .i64 x130001_49, .int .i64 x6_49, .int .u16 0, .int .u16 0, .int .u16 0, .slice none 0 0, .slice none 0 0, .int .i64 0, .int .i64 0, .int .i64 0, .int .i64 0]) ?_ 4 _ rfl; (with_reducible repeat (first | refine blk_drewN ?_ _ | refine blk_drew ?_ | refine blk_alloc ?_ _)); refine blk_put (cs := #[.int .i64 15, .int .i64 x130001_49, .int .i64 x6_49, .int .u16 0, .int .u16 0, .int .u16 0, .slice none 0 0, .slice none 0 0, .int .i64 0, .int .i64 0, .int .i64 0, .int .i64 0]) ?_ 3 _ rfl; (with_reducible repeat (first | refine blk_drewN ?_ _ | refine blk_drew ?_ | refine blk_alloc ?_ _)); refine blk_put (cs := #[.int .i64 15, .int .i64 x130001_49, .int .i64 0, .int .u16 0, .int .u16 0, .int .u16 0, .slice none 0 0, .slice none 0 0, .int .i64 0, .int .i64 0, .int .i64 0, .int .i64 0]) ?_ 2 _ rfl; (with_reducible repeat (first | refine blk_drewN ?_ _ | refine blk_drew ?_ | refine blk_alloc ?_ _)); refine blk_put (cs := #[.int .i64 15, .int .i64 0, .int .i64 0, .int .u16 0, .int .u16 0, .int .u16 0, .slice none 0 0, .slice none 0 0, .int .i64 0, .int .i64 0, .int .i64 0, .int .i64 0]) ?_ 1 _ rfl; (with_reducible repeat (first | refine blk_drewN ?_ _ | refine blk_drew ?_ | refine blk_alloc ?_ _)); refine blk_put (cs := #[.int .i64 0, .int .i64 0, .int .i64 0, .int .u16 0, .int .u16 0, .int .u16 0, .slice none 0 0, .slice none 0 0, .int .i64 0, .int .i64 0, .int .i64 0, .int .i64 0]) ?_ 0 _ rfl; (with_reducible repeat (first | refine blk_drewN ?_ _ | refine blk_drew ?_ | refine blk_alloc ?_ _)); exact BK124.out) Try.underlying26 rfl (by kernel_rfl)) rfl ?_
                   exact ⟨_, _, by first | rfl | (simp [errW_none, errW_some] <;> rfl) | (simp [*, errW_none, errW_some] <;> rfl), by (with_reducible repeat (first | apply Kd.R_alloc | apply Kd.R_drewN | apply Kd.R_drew)); exact Kd.R_mono (Kd.R_far (p := ⟨gb124, 11, none⟩) (Kd.R_far (p := ⟨gb124, 10, none⟩) (Kd.R_far (p := ⟨gb124, 9, none⟩) (Kd.R_far (p := ⟨gb124, 8, none⟩) (Kd.R_far (p := ⟨gb124, 7, none⟩) (Kd.R_far (p := ⟨gb124, 6, none⟩) (Kd.R_far (p := ⟨gb124, 5, none⟩) (Kd.R_far (p := ⟨gb124, 4, none⟩) (Kd.R_far (p := ⟨gb124, 3, none⟩) (Kd.R_far (p := ⟨gb124, 2, none⟩) (Kd.R_far (p := ⟨gb124, 1, none⟩) (Kd.R_far (p := ⟨gb124, 0, none⟩) (Kd.R_types HO_130006.out BK124.out (by decide)) (fun _ hk => hk.2) (.int .i64 15)) (fun _ hk => hk.2) (.int .i64 x130001_49)) (fun _ hk => hk.2) (.int .i64 x6_49)) (fun _ hk => hk.2) (.int .u16 0)) (fun _ hk => hk.2) (.int .u16 0)) (fun _ hk => hk.2) (.int .u16 0)) (fun _ hk => hk.2) (.slice Ao67 x130006_5.length co67)) (fun _ hk => hk.2) (.slice none 0 0)) (fun _ hk => hk.2) (.int .i64 0)) (fun _ hk => hk.2) (.int .i64 0)) (fun _ hk => hk.2) (.int .i64 0)) (fun _ hk => hk.2) (.int .i64 0)) (fun _ hk => trivial), by first | exact Kd.R_nil _ _ _ _ _ | exact Kd.N_nil _ _ _ _ _ | exact Kd.V_nil _ _ _ _ _ | exact Kd.Q_nil _ _ _ _ _ | exact Kd.S_nil _ _ _ _ _, by repeat (first | (with_reducible first | exact HB.out | apply below_alloc | apply pw_below_drewN | apply below_drew1 | refine below_set ?_ GE124.out | refine below_set ?_ GE129.out) | exact HB.out)⟩
             ·
              rw [if_neg c48] at H
              have c48b0 : (t130 == 10) = false := beq_eq_false_iff_ne.mpr c48
              have c48b1 : (t130 != 10) = true := bne_iff_ne.mpr c48
              have HC68 := Aside0.mk H
              clear H
              go_upto_if 96 with (fail)
              go_cut [96] (fun v96 wc => ∃ (kq : Nat) (x96_67 : Bool), v96 = .bool x96_67 ∧ Aside0 (busbarlaw0_Ask.j5 kq a1 (wrap64 (1 + t126)) t130 x96_67 0 x5_5 0 0 0 0 0 0 0 0 = some (r1, r2, r3, r4, r5, r6, r7, r8, r9, r10, r11, r12)) ∧ Aside0 (kq ≤ kj39) ∧ Aside0 (wc.heap[gb124]? = some (.cells #[.int .i64 0, .int .i64 0, .int .i64 0, .int .u16 0, .int .u16 0, .int .u16 0, (.slice none 0 0), (.slice none 0 0), .int .i64 0, .int .i64 0, .int .i64 0, .int .i64 0] 26 (0, 0))) ∧ Aside0 (wc.heap[gb129]? = some (.cells #[.int .i64 0, .int .i64 x5_5, .int .i64 0, .int .u16 0, .int .u16 0, .int .u16 0, (.slice none 0 0), (.slice none 0 0), .int .i64 0, .int .i64 0, .int .i64 0, .int .i64 0] 26 (0, 0))) ∧ Aside0 (Below w.heap.size w wc))
              case first =>
               have H := HC68.out
               clear HC68
               by_cases c69 : t130 = 11
               ·
                rw [if_pos c69] at H
                have c69b0 : (t130 == 11) = true := beq_iff_eq.mpr c69
                have c69b1 : (t130 != 11) = false := bne_eq_false_iff_eq.mpr c69
                clear c69
                (first | rw [c69b0] | (simp only [i64_w, i32_w]; rw [c69b0]) | skip)
                have H' := Aside0.mk H
                clear H
                go_wp2
                go_meet
                case rel => exact ⟨_, ((t130 == 11)), (by first | rfl | (simp; done) | (simp [*]; done)), H', ⟨by have := HJ5.out; have := HJ20.out; have := HJ39.out; first | omega | exact Nat.le_refl _⟩, ⟨by (with_reducible repeat (first | refine blk_drewN ?_ _ | refine blk_drew ?_ | refine blk_alloc ?_ _)); exact BK124.out⟩, ⟨by (with_reducible repeat (first | refine blk_drewN ?_ _ | refine blk_drew ?_ | refine blk_alloc ?_ _)); exact BK129.out⟩, ⟨by repeat (first | (with_reducible first | exact HB.out | apply below_alloc | apply pw_below_drewN | apply below_drew1 | refine below_set ?_ GE124.out | refine below_set ?_ GE129.out) | exact HB.out)⟩⟩
               ·
                rw [if_neg c69] at H
                have c69b0 : (t130 == 11) = false := beq_eq_false_iff_ne.mpr c69
                have c69b1 : (t130 != 11) = true := bne_iff_ne.mpr c69
                (first | rw [c69b0] | (simp only [i64_w, i32_w]; rw [c69b0]) | skip)
                have H' := Aside0.mk H
                clear H
                go_wp2
                go_meet
                case rel => exact ⟨_, ((t130 == 12)), (by first | rfl | (simp; done) | (simp [*]; done)), H', ⟨by have := HJ5.out; have := HJ20.out; have := HJ39.out; first | omega | exact Nat.le_refl _⟩, ⟨by (with_reducible repeat (first | refine blk_drewN ?_ _ | refine blk_drew ?_ | refine blk_alloc ?_ _)); exact BK124.out⟩, ⟨by (with_reducible repeat (first | refine blk_drewN ?_ _ | refine blk_drew ?_ | refine blk_alloc ?_ _)); exact BK129.out⟩, ⟨by repeat (first | (with_reducible first | exact HB.out | apply below_alloc | apply pw_below_drewN | apply below_drew1 | refine below_set ?_ GE124.out | refine below_set ?_ GE129.out) | exact HB.out)⟩⟩
              case rest =>
               clear HC68
               try clear c1
               try clear p2
               try clear c4
               try clear c5
               try clear c6
               try clear p6
               try clear c16
               try clear c48
               try clear c48b0
               try clear c48b1
               try clear c57
               try clear c57b0
               try clear c59
               try clear c64
               try clear p64
               try clear c69
               try clear c69b0
               try clear c69b1
               try clear hcz20_1
               try clear hcz20_10
               try clear hcz20_11
               try clear hcz20_2
               try clear hcz20_3
               try clear hcz20_4
               try clear hcz20_5
               try clear hcz20_6
               try clear hcz20_7
               try clear hcz20_8
               try clear hcz20_9
               try clear hcz24_0
               try clear hcz24_1
               try clear hcz24_10
               try clear hcz24_11
               try clear hcz24_2
               try clear hcz24_3
               try clear hcz24_4
               try clear hcz24_5
               try clear hcz24_6
               try clear hcz24_7
               try clear hcz24_8
               try clear hcz24_9
               try clear hcz29_0
               try clear hcz29_1
               try clear hcz29_10
               try clear hcz29_11
               try clear hcz29_2
               try clear hcz29_3
               try clear hcz29_4
               try clear hcz29_5
               try clear hcz29_6
               try clear hcz29_7
               try clear hcz29_8
               try clear hcz29_9
               try clear hcz30_0
               try clear hcz30_1
               try clear hcz30_10
               try clear hcz30_11
               try clear hcz30_2
               try clear hcz30_3
               try clear hcz30_4
               try clear hcz30_5
               try clear hcz30_6
               try clear hcz30_7
               try clear hcz30_8
               try clear hcz30_9
               try clear hcz33_0
               try clear hcz33_1
               try clear hcz33_10
               try clear hcz33_11
               try clear hcz33_2
               try clear hcz33_3
               try clear hcz33_4
               try clear hcz33_5
               try clear hcz33_6
               try clear hcz33_7
               try clear hcz33_8
               try clear hcz33_9
               try clear hcz34_0
               try clear hcz34_1
               try clear hcz34_10
               try clear hcz34_11
               try clear hcz34_2
               try clear hcz34_3
               try clear hcz34_4
               try clear hcz34_5
               try clear hcz34_6
               try clear hcz34_7
               try clear hcz34_8
               try clear hcz34_9
               try clear hcz38_0
               try clear hcz38_1
               try clear hcz38_10
               try clear hcz38_11
               try clear hcz38_2
               try clear hcz38_3
               try clear hcz38_4
               try clear hcz38_5
               try clear hcz38_6
               try clear hcz38_7
               try clear hcz38_8
               try clear hcz38_9
               try clear hcz39_0
               try clear hcz39_1
               try clear hcz39_10
               try clear hcz39_11
               try clear hcz39_2
               try clear hcz39_3
               try clear hcz39_4
               try clear hcz39_5
               try clear hcz39_6
               try clear hcz39_7
               try clear hcz39_8
               try clear hcz39_9
               try clear hcz46_0
               try clear hcz46_1
               try clear hcz46_10
               try clear hcz46_11
               try clear hcz46_2
               try clear hcz46_3
               try clear hcz46_4
               try clear hcz46_5
               try clear hcz46_6
               try clear hcz46_7
               try clear hcz46_8
               try clear hcz46_9
               try clear hcz47_0
               try clear hcz47_1
               try clear hcz47_10
               try clear hcz47_11
               try clear hcz47_2
               try clear hcz47_3
               try clear hcz47_4
               try clear hcz47_5
               try clear hcz47_6
               try clear hcz47_7
               try clear hcz47_8
               try clear hcz47_9
               try clear hcz54_0
               try clear hcz54_1
               try clear hcz54_10
               try clear hcz54_11
               try clear hcz54_2
               try clear hcz54_3
               try clear hcz54_4
               try clear hcz54_5
               try clear hcz54_6
               try clear hcz54_7
               try clear hcz54_8
               try clear hcz54_9
               try clear hcz56_0
               try clear hcz56_1
               try clear hcz56_10
               try clear hcz56_11
               try clear hcz56_2
               try clear hcz56_3
               try clear hcz56_4
               try clear hcz56_5
               try clear hcz56_6
               try clear hcz56_7
               try clear hcz56_8
               try clear hcz56_9
               try clear hcz65_0
               try clear hcz65_1
               try clear hcz65_10
               try clear hcz65_11
               try clear hcz65_2
               try clear hcz65_3
               try clear hcz65_4
               try clear hcz65_5
               try clear hcz65_6
               try clear hcz65_7
               try clear hcz65_8
               try clear hcz65_9
               try clear hcz66_0
               try clear hcz66_1
               try clear hcz66_10
               try clear hcz66_11
               try clear hcz66_2
               try clear hcz66_3
               try clear hcz66_4
               try clear hcz66_5
               try clear hcz66_6
               try clear hcz66_7
               try clear hcz66_8
               try clear hcz66_9
               try clear hfz14_0
               try clear hfz14_1
               try clear hfz14_10
               try clear hfz14_11
               try clear hfz14_2
               try clear hfz14_3
               try clear hfz14_4
               try clear hfz14_5
               try clear hfz14_6
               try clear hfz14_7
               try clear hfz14_8
               try clear hfz14_9
               try clear hfz15_0
               try clear hfz15_1
               try clear hfz15_10
               try clear hfz15_11
               try clear hfz15_2
               try clear hfz15_3
               try clear hfz15_4
               try clear hfz15_5
               try clear hfz15_6
               try clear hfz15_7
               try clear hfz15_8
               try clear hfz15_9
               try clear hfz19_0
               try clear hfz19_1
               try clear hfz19_10
               try clear hfz19_11
               try clear hfz19_2
               try clear hfz19_3
               try clear hfz19_4
               try clear hfz19_5
               try clear hfz19_6
               try clear hfz19_7
               try clear hfz19_8
               try clear hfz19_9
               try clear hfz20_0
               try clear hfz20_1
               try clear hfz20_10
               try clear hfz20_11
               try clear hfz20_2
               try clear hfz20_3
               try clear hfz20_4
               try clear hfz20_5
               try clear hfz20_6
               try clear hfz20_7
               try clear hfz20_8
               try clear hfz20_9
               try clear hfz24_0
               try clear hfz24_1
               try clear hfz24_10
               try clear hfz24_11
               try clear hfz24_2
               try clear hfz24_3
               try clear hfz24_4
               try clear hfz24_5
               try clear hfz24_6
               try clear hfz24_7
               try clear hfz24_8
               try clear hfz24_9
               try clear hfz29_0
               try clear hfz29_1
               try clear hfz29_10
               try clear hfz29_11
               try clear hfz29_2
               try clear hfz29_3
               try clear hfz29_4
               try clear hfz29_5
               try clear hfz29_6
               try clear hfz29_7
               try clear hfz29_8
               try clear hfz29_9
               try clear hfz30_0
               try clear hfz30_1
               try clear hfz30_10
               try clear hfz30_11
               try clear hfz30_2
               try clear hfz30_3
               try clear hfz30_4
               try clear hfz30_5
               try clear hfz30_6
               try clear hfz30_7
               try clear hfz30_8
               try clear hfz30_9
               try clear hfz33_0
               try clear hfz33_1
               try clear hfz33_10
               try clear hfz33_11
               try clear hfz33_2
               try clear hfz33_3
               try clear hfz33_4
               try clear hfz33_5
               try clear hfz33_6
               try clear hfz33_7
               try clear hfz33_8
               try clear hfz33_9
               try clear hfz34_0
               try clear hfz34_1
               try clear hfz34_10
               try clear hfz34_11
               try clear hfz34_2
               try clear hfz34_3
               try clear hfz34_4
               try clear hfz34_5
               try clear hfz34_6
               try clear hfz34_7
               try clear hfz34_8
               try clear hfz34_9
               try clear hfz38_0
               try clear hfz38_1
               try clear hfz38_10
               try clear hfz38_11
               try clear hfz38_2
               try clear hfz38_3
               try clear hfz38_4
               try clear hfz38_5
               try clear hfz38_6
               try clear hfz38_7
               try clear hfz38_8
               try clear hfz38_9
               try clear hfz39_0
               try clear hfz39_1
               try clear hfz39_10
               try clear hfz39_11
               try clear hfz39_2
               try clear hfz39_3
               try clear hfz39_4
               try clear hfz39_5
               try clear hfz39_6
               try clear hfz39_7
               try clear hfz39_8
               try clear hfz39_9
               try clear hfz46_0
               try clear hfz46_1
               try clear hfz46_10
               try clear hfz46_11
               try clear hfz46_2
               try clear hfz46_3
               try clear hfz46_4
               try clear hfz46_5
               try clear hfz46_6
               try clear hfz46_7
               try clear hfz46_8
               try clear hfz46_9
               try clear hfz47_0
               try clear hfz47_1
               try clear hfz47_10
               try clear hfz47_11
               try clear hfz47_2
               try clear hfz47_3
               try clear hfz47_4
               try clear hfz47_5
               try clear hfz47_6
               try clear hfz47_7
               try clear hfz47_8
               try clear hfz47_9
               try clear hfz54_0
               try clear hfz54_1
               try clear hfz54_10
               try clear hfz54_11
               try clear hfz54_2
               try clear hfz54_3
               try clear hfz54_4
               try clear hfz54_5
               try clear hfz54_6
               try clear hfz54_7
               try clear hfz54_8
               try clear hfz54_9
               try clear hfz56_0
               try clear hfz56_1
               try clear hfz56_10
               try clear hfz56_11
               try clear hfz56_2
               try clear hfz56_3
               try clear hfz56_4
               try clear hfz56_5
               try clear hfz56_6
               try clear hfz56_7
               try clear hfz56_8
               try clear hfz56_9
               try clear hfz65_0
               try clear hfz65_1
               try clear hfz65_10
               try clear hfz65_11
               try clear hfz65_2
               try clear hfz65_3
               try clear hfz65_4
               try clear hfz65_5
               try clear hfz65_6
               try clear hfz65_7
               try clear hfz65_8
               try clear hfz65_9
               try clear hfz66_0
               try clear hfz66_1
               try clear hfz66_10
               try clear hfz66_11
               try clear hfz66_2
               try clear hfz66_3
               try clear hfz66_4
               try clear hfz66_5
               try clear hfz66_6
               try clear hfz66_7
               try clear hfz66_8
               try clear hfz66_9
               try clear p2
               try clear p6
               obtain ⟨kq, x96_67, rfl, HA, HJ67, BK124, BK129, HB⟩ := hcut
               cases kq with
               | zero => exact absurd HA.out (by simp [busbarlaw0_Ask.j5])
               | succ kj67 =>
                have H := HA.out
                clear HA
                simp only [busbarlaw0_Ask.j5] at H
                by_cases c70 : x96_67 = true
                ·
                 subst c70
                 have H1 : ((busbarlaw0_words.f kj67 a1 (wrap64 (1 + t126))).bind fun t139 => (some (16, x5_5, (wrap64 (1 + t126)), 0, 0, 0, ([] : List Bool), t139, 0, 0, 0, 0))) = some (r1, r2, r3, r4, r5, r6, r7, r8, r9, r10, r11, r12) := by rw [if_pos rfl] at H; exact H
                 clear H
                 have H := H1
                 clear H1
                 replace H := Option.bind_eq_some_iff.mp H
                 obtain ⟨t139, A710, H⟩ := H
                 replace H : (some (16, x5_5, (wrap64 (1 + t126)), 0, 0, 0, ([] : List Bool), t139, 0, 0, 0, 0)) = some (r1, r2, r3, r4, r5, r6, r7, r8, r9, r10, r11, r12) := H
                 have A71 := Aside0.mk A710
                 clear A710
                 simp only [Option.some.injEq, Prod.mk.injEq] at H
                 obtain ⟨rfl, rfl, rfl, rfl, rfl, rfl, rfl, rfl, rfl, rfl, rfl, rfl⟩ := H
                 go_wp2_with (first | ((with_reducible refine gate_callee (f := 47) rfl ?_); refine goesL_ (some 102) rfl rfl Try.func47 (by kernel_rfl) rfl #[.int .i64 a1, .int .i64 (wrap64 (1 + t126))] rfl (by (try simp only [List.map_toArray, List.map_cons, List.map_nil]); first | done | rfl | (simp only [List.length_drop, List.length_take]; rfl)) ?_; (with_reducible refine (busbarlaw0_words.calls kj67 a1 (wrap64 (1 + t126)) t139 _ A71.out).mono ?_); rintro e w72 ⟨v140, rfl, ho0, hb⟩; refine ⟨_, rfl, ?_⟩; have n0_ := Aside0.mk (Kd.R_lower ho0 (below_size (by repeat (first | (with_reducible first | exact HB.out | apply below_alloc | apply pw_below_drewN | apply below_drew1 | refine below_set ?_ GE124.out | refine below_set ?_ GE129.out) | exact HB.out)))); have n1_ := Aside0.mk (blk_below (g := gb124) (o := .cells #[.int .i64 0, .int .i64 0, .int .i64 0, .int .u16 0, .int .u16 0, .int .u16 0, .slice none 0 0, .slice none 0 0, .int .i64 0, .int .i64 0, .int .i64 0, .int .i64 0] 26 (0, 0)) (by (with_reducible repeat (first | refine blk_drewN ?_ _ | refine blk_drew ?_ | refine blk_alloc ?_ _)); exact BK124.out) hb); have n2_ := Aside0.mk (blk_below (g := gb129) (o := .cells #[.int .i64 0, .int .i64 x5_5, .int .i64 0, .int .u16 0, .int .u16 0, .int .u16 0, .slice none 0 0, .slice none 0 0, .int .i64 0, .int .i64 0, .int .i64 0, .int .i64 0] 26 (0, 0)) (by (with_reducible repeat (first | refine blk_drewN ?_ _ | refine blk_drew ?_ | refine blk_alloc ?_ _)); exact BK129.out) hb); have n3_ := Aside0.mk (below_step (by repeat (first | (with_reducible first | exact HB.out | apply below_alloc | apply pw_below_drewN | apply below_drew1 | refine below_set ?_ GE124.out | refine below_set ?_ GE129.out) | exact HB.out)) hb); clear BK124; clear BK129; clear HB; have HO141 := n0_; have BK124 := n1_; have BK129 := n2_; have HB := n3_; clear n0_ n1_ n2_ n3_; (try clear hb); (try clear hb2); (try clear hk); (try clear hi); (try clear ho0); have hnb73 := NB129_124.out; have hnc73 := NB124_129.out; have hcz74_0 : w72.cell? ⟨gb129, 0, none⟩ = some (.int .i64 0) := (blk_cell BK129.out 0).trans rfl; have hcz74_1 : w72.cell? ⟨gb129, 1, none⟩ = some (.int .i64 x5_5) := (blk_cell BK129.out 1).trans rfl; have hcz74_2 : w72.cell? ⟨gb129, 2, none⟩ = some (.int .i64 0) := (blk_cell BK129.out 2).trans rfl; have hcz74_3 : w72.cell? ⟨gb129, 3, none⟩ = some (.int .u16 0) := (blk_cell BK129.out 3).trans rfl; have hcz74_4 : w72.cell? ⟨gb129, 4, none⟩ = some (.int .u16 0) := (blk_cell BK129.out 4).trans rfl; have hcz74_5 : w72.cell? ⟨gb129, 5, none⟩ = some (.int .u16 0) := (blk_cell BK129.out 5).trans rfl; have hcz74_6 : w72.cell? ⟨gb129, 6, none⟩ = some (.slice none 0 0) := (blk_cell BK129.out 6).trans rfl; have hcz74_7 : w72.cell? ⟨gb129, 7, none⟩ = some (.slice none 0 0) := (blk_cell BK129.out 7).trans rfl; have hcz74_8 : w72.cell? ⟨gb129, 8, none⟩ = some (.int .i64 0) := (blk_cell BK129.out 8).trans rfl; have hcz74_9 : w72.cell? ⟨gb129, 9, none⟩ = some (.int .i64 0) := (blk_cell BK129.out 9).trans rfl; have hcz74_10 : w72.cell? ⟨gb129, 10, none⟩ = some (.int .i64 0) := (blk_cell BK129.out 10).trans rfl; have hcz74_11 : w72.cell? ⟨gb129, 11, none⟩ = some (.int .i64 0) := (blk_cell BK129.out 11).trans rfl; have hfz74_0 := blk_frozen BK129.out 0; have hfz74_1 := blk_frozen BK129.out 1; have hfz74_2 := blk_frozen BK129.out 2; have hfz74_3 := blk_frozen BK129.out 3; have hfz74_4 := blk_frozen BK129.out 4; have hfz74_5 := blk_frozen BK129.out 5; have hfz74_6 := blk_frozen BK129.out 6; have hfz74_7 := blk_frozen BK129.out 7; have hfz74_8 := blk_frozen BK129.out 8; have hfz74_9 := blk_frozen BK129.out 9; have hfz74_10 := blk_frozen BK129.out 10; have hfz74_11 := blk_frozen BK129.out 11; obtain ⟨Ao75, co75, eo75⟩ := Kd.R_slice HO141.out; subst eo75; have hcz76_0 : w72.cell? ⟨gb124, 0, none⟩ = some (.int .i64 0) := (blk_cell BK124.out 0).trans rfl; have hcz76_1 : w72.cell? ⟨gb124, 1, none⟩ = some (.int .i64 0) := (blk_cell BK124.out 1).trans rfl; have hcz76_2 : w72.cell? ⟨gb124, 2, none⟩ = some (.int .i64 0) := (blk_cell BK124.out 2).trans rfl; have hcz76_3 : w72.cell? ⟨gb124, 3, none⟩ = some (.int .u16 0) := (blk_cell BK124.out 3).trans rfl; have hcz76_4 : w72.cell? ⟨gb124, 4, none⟩ = some (.int .u16 0) := (blk_cell BK124.out 4).trans rfl; have hcz76_5 : w72.cell? ⟨gb124, 5, none⟩ = some (.int .u16 0) := (blk_cell BK124.out 5).trans rfl; have hcz76_6 : w72.cell? ⟨gb124, 6, none⟩ = some (.slice none 0 0) := (blk_cell BK124.out 6).trans rfl; have hcz76_7 : w72.cell? ⟨gb124, 7, none⟩ = some (.slice none 0 0) := (blk_cell BK124.out 7).trans rfl; have hcz76_8 : w72.cell? ⟨gb124, 8, none⟩ = some (.int .i64 0) := (blk_cell BK124.out 8).trans rfl; have hcz76_9 : w72.cell? ⟨gb124, 9, none⟩ = some (.int .i64 0) := (blk_cell BK124.out 9).trans rfl; have hcz76_10 : w72.cell? ⟨gb124, 10, none⟩ = some (.int .i64 0) := (blk_cell BK124.out 10).trans rfl; have hcz76_11 : w72.cell? ⟨gb124, 11, none⟩ = some (.int .i64 0) := (blk_cell BK124.out 11).trans rfl; have hfz76_0 := blk_frozen BK124.out 0; have hfz76_1 := blk_frozen BK124.out 1; have hfz76_2 := blk_frozen BK124.out 2; have hfz76_3 := blk_frozen BK124.out 3; have hfz76_4 := blk_frozen BK124.out 4; have hfz76_5 := blk_frozen BK124.out 5; have hfz76_6 := blk_frozen BK124.out 6; have hfz76_7 := blk_frozen BK124.out 7; have hfz76_8 := blk_frozen BK124.out 8; have hfz76_9 := blk_frozen BK124.out 9; have hfz76_10 := blk_frozen BK124.out 10; have hfz76_11 := blk_frozen BK124.out 11))
                 refine bodyPost_ret (results_cell_row rfl _ _ gb124 26 #[.int .i64 16, .int .i64 x5_5, .int .i64 (wrap64 (1 + t126)), .int .u16 0, .int .u16 0, .int .u16 0, .slice none 0 0, .slice Ao75 t139.length co75, .int .i64 0, .int .i64 0, .int .i64 0, .int .i64 0] (0, 0) _ rfl (by (with_reducible repeat (first | refine blk_drewN ?_ _ | refine blk_drew ?_ | refine blk_alloc ?_ _)); refine blk_put (cs := #[.int .i64 16, .int .i64 x5_5, .int .i64 (wrap64 (1 + t126)), .int .u16 0, .int .u16 0, .int .u16 0, .slice none 0 0, .slice Ao75 t139.length co75, .int .i64 0, .int .i64 0, .int .i64 0, .int .i64 0]) ?_ 11 _ rfl; (with_reducible repeat (first | refine blk_drewN ?_ _ | refine blk_drew ?_ | refine blk_alloc ?_ _)); refine blk_put (cs := #[.int .i64 16, .int .i64 x5_5, .int .i64 (wrap64 (1 + t126)), .int .u16 0, .int .u16 0, .int .u16 0, .slice none 0 0, .slice Ao75 t139.length co75, .int .i64 0, .int .i64 0, .int .i64 0, .int .i64 0]) ?_ 10 _ rfl; (with_reducible repeat (first | refine blk_drewN ?_ _ | refine blk_drew ?_ | refine blk_alloc ?_ _)); refine blk_put (cs := #[.int .i64 16, .int .i64 x5_5, .int .i64 (wrap64 (1 + t126)), .int .u16 0, .int .u16 0, .int .u16 0, .slice none 0 0, .slice Ao75 t139.length co75, .int .i64 0, .int .i64 0, .int .i64 0, .int .i64 0]) ?_ 9 _ rfl; (with_reducible repeat (first | refine blk_drewN ?_ _ | refine blk_drew ?_ | refine blk_alloc ?_ _)); refine blk_put (cs := #[.int .i64 16, .int .i64 x5_5, .int .i64 (wrap64 (1 + t126)), .int .u16 0, .int .u16 0, .int .u16 0, .slice none 0 0, .slice Ao75 t139.length co75, .int .i64 0, .int .i64 0, .int .i64 0, .int .i64 0]) ?_ 8 _ rfl; (with_reducible repeat (first | refine blk_drewN ?_ _ | refine blk_drew ?_ | refine blk_alloc ?_ _)); refine blk_put (cs := #[.int .i64 16, .int .i64 x5_5, .int .i64 (wrap64 (1 + t126)), .int .u16 0, .int .u16 0, .int .u16 0, .slice none 0 0, .slice none 0 0, .int .i64 0, .int .i64 0, .int .i64 0, .int .i64 0]) ?_ 7 _ rfl; (with_reducible repeat (first | refine blk_drewN ?_ _ | refine blk_drew ?_ | refine blk_alloc ?_ _)); refine blk_put (cs := #[.int .i64 16, .int .i64 x5_5, .int .i64 (wrap64 (1 + t126)), .int .u16 0, .int .u16 0, .int .u16 0, .slice none 0 0, .slice none 0 0, .int .i64 0, .int .i64 0, .int .i64 0, .int .i64 0]) ?_ 6 _ rfl; (with_reducible repeat (first | refine blk_drewN ?_ _ | refine blk_drew ?_ | refine blk_alloc ?_ _)); refine blk_put (cs := #[.int .i64 16, .int .i64 x5_5, .int .i64 (wrap64 (1 + t126)), .int .u16 0, .int .u16 0, .int .u16 0, .slice none 0 0, .slice none 0 0, .int .i64 0, .int .i64 0, .int .i64 0, .int .i64 0]) ?_ 5 _ rfl; (with_reducible repeat (first | refine blk_drewN ?_ _ | refine blk_drew ?_ | refine blk_alloc ?_ _)); refine blk_put (cs := #[.int .i64 16, .int .i64 x5_5, .int .i64 (wrap64 (1 + t126)), .int .u16 0, .int .u16 0, .int .u16 0, .slice none 0 0, .slice none 0 0, .int .i64 0, .int .i64 0, .int .i64 0, .int .i64 0]) ?_ 4 _ rfl; (with_reducible repeat (first | refine blk_drewN ?_ _ | refine blk_drew ?_ | refine blk_alloc ?_ _)); refine blk_put (cs := #[.int .i64 16, .int .i64 x5_5, .int .i64 (wrap64 (1 + t126)), .int .u16 0, .int .u16 0, .int .u16 0, .slice none 0 0, .slice none 0 0, .int .i64 0, .int .i64 0, .int .i64 0, .int .i64 0]) ?_ 3 _ rfl; (with_reducible repeat (first | refine blk_drewN ?_ _ | refine blk_drew ?_ | refine blk_alloc ?_ _)); refine blk_put (cs := #[.int .i64 16, .int .i64 x5_5, .int .i64 0, .int .u16 0, .int .u16 0, .int .u16 0, .slice none 0 0, .slice none 0 0, .int .i64 0, .int .i64 0, .int .i64 0, .int .i64 0]) ?_ 2 _ rfl; (with_reducible repeat (first | refine blk_drewN ?_ _ | refine blk_drew ?_ | refine blk_alloc ?_ _)); refine blk_put (cs := #[.int .i64 16, .int .i64 0, .int .i64 0, .int .u16 0, .int .u16 0, .int .u16 0, .slice none 0 0, .slice none 0 0, .int .i64 0, .int .i64 0, .int .i64 0, .int .i64 0]) ?_ 1 _ rfl; (with_reducible repeat (first | refine blk_drewN ?_ _ | refine blk_drew ?_ | refine blk_alloc ?_ _)); refine blk_put (cs := #[.int .i64 0, .int .i64 0, .int .i64 0, .int .u16 0, .int .u16 0, .int .u16 0, .slice none 0 0, .slice none 0 0, .int .i64 0, .int .i64 0, .int .i64 0, .int .i64 0]) ?_ 0 _ rfl; (with_reducible repeat (first | refine blk_drewN ?_ _ | refine blk_drew ?_ | refine blk_alloc ?_ _)); refine blk_far ?_ NB124_129.out _; (with_reducible repeat (first | refine blk_drewN ?_ _ | refine blk_drew ?_ | refine blk_alloc ?_ _)); refine blk_far ?_ NB124_129.out _; (with_reducible repeat (first | refine blk_drewN ?_ _ | refine blk_drew ?_ | refine blk_alloc ?_ _)); refine blk_far ?_ NB124_129.out _; (with_reducible repeat (first | refine blk_drewN ?_ _ | refine blk_drew ?_ | refine blk_alloc ?_ _)); exact BK124.out) Try.underlying26 rfl (by kernel_rfl)) rfl ?_
                 exact ⟨_, _, by first | rfl | (simp [errW_none, errW_some] <;> rfl) | (simp [*, errW_none, errW_some] <;> rfl), by first | exact Kd.R_nil _ _ _ _ _ | exact Kd.N_nil _ _ _ _ _ | exact Kd.V_nil _ _ _ _ _ | exact Kd.Q_nil _ _ _ _ _ | exact Kd.S_nil _ _ _ _ _, by (with_reducible repeat (first | apply Kd.R_alloc | apply Kd.R_drewN | apply Kd.R_drew)); exact Kd.R_mono (Kd.R_far (p := ⟨gb124, 11, none⟩) (Kd.R_far (p := ⟨gb124, 10, none⟩) (Kd.R_far (p := ⟨gb124, 9, none⟩) (Kd.R_far (p := ⟨gb124, 8, none⟩) (Kd.R_far (p := ⟨gb124, 7, none⟩) (Kd.R_far (p := ⟨gb124, 6, none⟩) (Kd.R_far (p := ⟨gb124, 5, none⟩) (Kd.R_far (p := ⟨gb124, 4, none⟩) (Kd.R_far (p := ⟨gb124, 3, none⟩) (Kd.R_far (p := ⟨gb124, 2, none⟩) (Kd.R_far (p := ⟨gb124, 1, none⟩) (Kd.R_far (p := ⟨gb124, 0, none⟩) (Kd.R_far (p := ⟨gb129, 7, none⟩) (Kd.R_far (p := ⟨gb129, 2, none⟩) (Kd.R_far (p := ⟨gb129, 0, none⟩) (Kd.R_types (Kd.R_types HO141.out BK129.out (by decide)) BK124.out (by decide)) (fun _ hk => hk.1.2) (.int .i64 16)) (fun _ hk => hk.1.2) (.int .i64 (wrap64 (1 + t126)))) (fun _ hk => hk.1.2) (.slice Ao75 t139.length co75)) (fun _ hk => hk.2) (.int .i64 16)) (fun _ hk => hk.2) (.int .i64 x5_5)) (fun _ hk => hk.2) (.int .i64 (wrap64 (1 + t126)))) (fun _ hk => hk.2) (.int .u16 0)) (fun _ hk => hk.2) (.int .u16 0)) (fun _ hk => hk.2) (.int .u16 0)) (fun _ hk => hk.2) (.slice none 0 0)) (fun _ hk => hk.2) (.slice Ao75 t139.length co75)) (fun _ hk => hk.2) (.int .i64 0)) (fun _ hk => hk.2) (.int .i64 0)) (fun _ hk => hk.2) (.int .i64 0)) (fun _ hk => hk.2) (.int .i64 0)) (fun _ hk => trivial), by repeat (first | (with_reducible first | exact HB.out | apply below_alloc | apply pw_below_drewN | apply below_drew1 | refine below_set ?_ GE124.out | refine below_set ?_ GE129.out) | exact HB.out)⟩
                ·
                 replace c70 := Bool.eq_false_iff.mpr c70
                 subst c70
                 have H1 : (if t130 = 13 then ((busbarlaw0_Within.f a1 65536).bind fun t142 => ((busbarlaw0_Digit.f a1 65536 65536).bind fun t143 => (some (22, x5_5, 0, 0, IntKind.u16.wrap (t142), IntKind.u16.wrap (t143), ([] : List Bool), ([] : List Int), 0, 0, 0, 0)))) else (if t130 = 14 then ((busbarlaw0_words.f kj67 a1 (wrap64 (1 + t126))).bind fun t144 => ((busbarlaw0_Within.f a1 40).bind fun t147 => ((busbarlaw0_Digit.f a1 40 6).bind fun t148 => (some (23, x5_5, (wrap64 (1 + t126)), 0, 0, 0, ([] : List Bool), t144, t147, wrap64 (1 + t148), 0, 0))))) else ((busbarlaw0_Within.f a1 4).bind fun t149 => ((busbarlaw0_Digit.f a1 4 5).bind fun t150 => (some (43, 0, 0, 0, 0, 0, ([] : List Bool), ([] : List Int), 0, 0, wrap64 (1 + t149), t150)))))) = some (r1, r2, r3, r4, r5, r6, r7, r8, r9, r10, r11, r12) := by rw [if_neg (show ¬ (false = true) by decide)] at H; exact H
                 clear H
                 have H := H1
                 clear H1
                 by_cases c77 : t130 = 13
                 ·
                  rw [if_pos c77] at H
                  have c77b0 : (t130 == 13) = true := beq_iff_eq.mpr c77
                  have c77b1 : (t130 != 13) = false := bne_eq_false_iff_eq.mpr c77
                  clear c77
                  replace H := Option.bind_eq_some_iff.mp H
                  obtain ⟨t142, A780, H⟩ := H
                  replace H : ((busbarlaw0_Digit.f a1 65536 65536).bind fun t143 => (some (22, x5_5, 0, 0, IntKind.u16.wrap (t142), IntKind.u16.wrap (t143), ([] : List Bool), ([] : List Int), 0, 0, 0, 0))) = some (r1, r2, r3, r4, r5, r6, r7, r8, r9, r10, r11, r12) := H
                  have A78 := Aside0.mk A780
                  clear A780
                  replace H := Option.bind_eq_some_iff.mp H
                  obtain ⟨t143, A790, H⟩ := H
                  replace H : (some (22, x5_5, 0, 0, IntKind.u16.wrap (t142), IntKind.u16.wrap (t143), ([] : List Bool), ([] : List Int), 0, 0, 0, 0)) = some (r1, r2, r3, r4, r5, r6, r7, r8, r9, r10, r11, r12) := H
                  have A79 := Aside0.mk A790
                  clear A790
                  simp only [Option.some.injEq, Prod.mk.injEq] at H
                  obtain ⟨rfl, rfl, rfl, rfl, rfl, rfl, rfl, rfl, rfl, rfl, rfl, rfl⟩ := H
                  go_wp2_with (first | ((with_reducible refine gate_callee (f := 16) rfl ?_); refine goesL_ (some 109) rfl rfl Try.func16 (by kernel_rfl) rfl #[.int .i64 a1, .int .i64 65536] rfl (by (try simp only [List.map_toArray, List.map_cons, List.map_nil]); first | done | rfl | (simp only [List.length_drop, List.length_take]; rfl)) ?_; (with_reducible refine (busbarlaw0_Within.calls a1 65536 t142 _ A78.out).mono ?_); rintro e w' ⟨rfl, ⟨nd, rfl⟩⟩; refine ⟨_, rfl, ?_⟩; (try (rw [drewN_self wc]; generalize hq_ : World.drewN wc _ = wc; have n0_ : Aside0 (wc.heap[gb124]? = some (.cells #[.int .i64 0, .int .i64 0, .int .i64 0, .int .u16 0, .int .u16 0, .int .u16 0, .slice none 0 0, .slice none 0 0, .int .i64 0, .int .i64 0, .int .i64 0, .int .i64 0] 26 (0, 0))) := ⟨by rw [← hq_]; exact (by (with_reducible repeat (first | refine blk_drewN ?_ _ | refine blk_drew ?_ | refine blk_alloc ?_ _)); exact BK124.out)⟩; have n1_ : Aside0 (wc.heap[gb129]? = some (.cells #[.int .i64 0, .int .i64 x5_5, .int .i64 0, .int .u16 0, .int .u16 0, .int .u16 0, .slice none 0 0, .slice none 0 0, .int .i64 0, .int .i64 0, .int .i64 0, .int .i64 0] 26 (0, 0))) := ⟨by rw [← hq_]; exact (by (with_reducible repeat (first | refine blk_drewN ?_ _ | refine blk_drew ?_ | refine blk_alloc ?_ _)); exact BK129.out)⟩; have n2_ : Aside0 (Below w.heap.size w wc) := ⟨by rw [← hq_]; exact (by repeat (first | (with_reducible first | exact HB.out | apply below_alloc | apply pw_below_drewN | apply below_drew1 | refine below_set ?_ GE124.out | refine below_set ?_ GE129.out) | exact HB.out))⟩; clear BK124 BK129 HB hq_; have BK124 := n0_; have BK129 := n1_; have HB := n2_; clear n0_ n1_ n2_))) | ((with_reducible refine gate_callee (f := 31) rfl ?_); refine goesL_ (some 112) rfl rfl Try.func31 (by kernel_rfl) rfl #[.int .i64 a1, .int .i64 65536, .int .i64 65536] rfl (by (try simp only [List.map_toArray, List.map_cons, List.map_nil]); first | done | rfl | (simp only [List.length_drop, List.length_take]; rfl)) ?_; (with_reducible refine (busbarlaw0_Digit.calls a1 65536 65536 t143 _ A79.out).mono ?_); rintro e w' ⟨rfl, ⟨nd, rfl⟩⟩; refine ⟨_, rfl, ?_⟩; (try (rw [drewN_self wc]; generalize hq_ : World.drewN wc _ = wc; have n0_ : Aside0 (wc.heap[gb124]? = some (.cells #[.int .i64 0, .int .i64 0, .int .i64 0, .int .u16 0, .int .u16 0, .int .u16 0, .slice none 0 0, .slice none 0 0, .int .i64 0, .int .i64 0, .int .i64 0, .int .i64 0] 26 (0, 0))) := ⟨by rw [← hq_]; exact (by (with_reducible repeat (first | refine blk_drewN ?_ _ | refine blk_drew ?_ | refine blk_alloc ?_ _)); exact BK124.out)⟩; have n1_ : Aside0 (wc.heap[gb129]? = some (.cells #[.int .i64 0, .int .i64 x5_5, .int .i64 0, .int .u16 0, .int .u16 0, .int .u16 0, .slice none 0 0, .slice none 0 0, .int .i64 0, .int .i64 0, .int .i64 0, .int .i64 0] 26 (0, 0))) := ⟨by rw [← hq_]; exact (by (with_reducible repeat (first | refine blk_drewN ?_ _ | refine blk_drew ?_ | refine blk_alloc ?_ _)); exact BK129.out)⟩; have n2_ : Aside0 (Below w.heap.size w wc) := ⟨by rw [← hq_]; exact (by repeat (first | (with_reducible first | exact HB.out | apply below_alloc | apply pw_below_drewN | apply below_drew1 | refine below_set ?_ GE124.out | refine below_set ?_ GE129.out) | exact HB.out))⟩; clear BK124 BK129 HB hq_; have BK124 := n0_; have BK129 := n1_; have HB := n2_; clear n0_ n1_ n2_)); have hnb80 := NB129_124.out; have hnc80 := NB124_129.out; have hcz81_0 : wc.cell? ⟨gb129, 0, none⟩ = some (.int .i64 0) := (blk_cell BK129.out 0).trans rfl; have hcz81_1 : wc.cell? ⟨gb129, 1, none⟩ = some (.int .i64 x5_5) := (blk_cell BK129.out 1).trans rfl; have hcz81_2 : wc.cell? ⟨gb129, 2, none⟩ = some (.int .i64 0) := (blk_cell BK129.out 2).trans rfl; have hcz81_3 : wc.cell? ⟨gb129, 3, none⟩ = some (.int .u16 0) := (blk_cell BK129.out 3).trans rfl; have hcz81_4 : wc.cell? ⟨gb129, 4, none⟩ = some (.int .u16 0) := (blk_cell BK129.out 4).trans rfl; have hcz81_5 : wc.cell? ⟨gb129, 5, none⟩ = some (.int .u16 0) := (blk_cell BK129.out 5).trans rfl; have hcz81_6 : wc.cell? ⟨gb129, 6, none⟩ = some (.slice none 0 0) := (blk_cell BK129.out 6).trans rfl; have hcz81_7 : wc.cell? ⟨gb129, 7, none⟩ = some (.slice none 0 0) := (blk_cell BK129.out 7).trans rfl; have hcz81_8 : wc.cell? ⟨gb129, 8, none⟩ = some (.int .i64 0) := (blk_cell BK129.out 8).trans rfl; have hcz81_9 : wc.cell? ⟨gb129, 9, none⟩ = some (.int .i64 0) := (blk_cell BK129.out 9).trans rfl; have hcz81_10 : wc.cell? ⟨gb129, 10, none⟩ = some (.int .i64 0) := (blk_cell BK129.out 10).trans rfl; have hcz81_11 : wc.cell? ⟨gb129, 11, none⟩ = some (.int .i64 0) := (blk_cell BK129.out 11).trans rfl; have hfz81_0 := blk_frozen BK129.out 0; have hfz81_1 := blk_frozen BK129.out 1; have hfz81_2 := blk_frozen BK129.out 2; have hfz81_3 := blk_frozen BK129.out 3; have hfz81_4 := blk_frozen BK129.out 4; have hfz81_5 := blk_frozen BK129.out 5; have hfz81_6 := blk_frozen BK129.out 6; have hfz81_7 := blk_frozen BK129.out 7; have hfz81_8 := blk_frozen BK129.out 8; have hfz81_9 := blk_frozen BK129.out 9; have hfz81_10 := blk_frozen BK129.out 10; have hfz81_11 := blk_frozen BK129.out 11; have hcz82_0 : wc.cell? ⟨gb124, 0, none⟩ = some (.int .i64 0) := (blk_cell BK124.out 0).trans rfl; have hcz82_1 : wc.cell? ⟨gb124, 1, none⟩ = some (.int .i64 0) := (blk_cell BK124.out 1).trans rfl; have hcz82_2 : wc.cell? ⟨gb124, 2, none⟩ = some (.int .i64 0) := (blk_cell BK124.out 2).trans rfl; have hcz82_3 : wc.cell? ⟨gb124, 3, none⟩ = some (.int .u16 0) := (blk_cell BK124.out 3).trans rfl; have hcz82_4 : wc.cell? ⟨gb124, 4, none⟩ = some (.int .u16 0) := (blk_cell BK124.out 4).trans rfl; have hcz82_5 : wc.cell? ⟨gb124, 5, none⟩ = some (.int .u16 0) := (blk_cell BK124.out 5).trans rfl; have hcz82_6 : wc.cell? ⟨gb124, 6, none⟩ = some (.slice none 0 0) := (blk_cell BK124.out 6).trans rfl; have hcz82_7 : wc.cell? ⟨gb124, 7, none⟩ = some (.slice none 0 0) := (blk_cell BK124.out 7).trans rfl; have hcz82_8 : wc.cell? ⟨gb124, 8, none⟩ = some (.int .i64 0) := (blk_cell BK124.out 8).trans rfl; have hcz82_9 : wc.cell? ⟨gb124, 9, none⟩ = some (.int .i64 0) := (blk_cell BK124.out 9).trans rfl; have hcz82_10 : wc.cell? ⟨gb124, 10, none⟩ = some (.int .i64 0) := (blk_cell BK124.out 10).trans rfl; have hcz82_11 : wc.cell? ⟨gb124, 11, none⟩ = some (.int .i64 0) := (blk_cell BK124.out 11).trans rfl; have hfz82_0 := blk_frozen BK124.out 0; have hfz82_1 := blk_frozen BK124.out 1; have hfz82_2 := blk_frozen BK124.out 2; have hfz82_3 := blk_frozen BK124.out 3; have hfz82_4 := blk_frozen BK124.out 4; have hfz82_5 := blk_frozen BK124.out 5; have hfz82_6 := blk_frozen BK124.out 6; have hfz82_7 := blk_frozen BK124.out 7; have hfz82_8 := blk_frozen BK124.out 8; have hfz82_9 := blk_frozen BK124.out 9; have hfz82_10 := blk_frozen BK124.out 10; have hfz82_11 := blk_frozen BK124.out 11))
                  refine bodyPost_ret (results_cell_row rfl _ _ gb124 26 #[.int .i64 22, .int .i64 x5_5, .int .i64 0, .int .u16 0, .int .u16 (IntKind.u16.wrap (t142)), .int .u16 (IntKind.u16.wrap (t143)), .slice none 0 0, .slice none 0 0, .int .i64 0, .int .i64 0, .int .i64 0, .int .i64 0] (0, 0) _ rfl (by (with_reducible repeat (first | refine blk_drewN ?_ _ | refine blk_drew ?_ | refine blk_alloc ?_ _)); refine blk_put (cs := #[.int .i64 22, .int .i64 x5_5, .int .i64 0, .int .u16 0, .int .u16 (IntKind.u16.wrap (t142)), .int .u16 (IntKind.u16.wrap (t143)), .slice none 0 0, .slice none 0 0, .int .i64 0, .int .i64 0, .int .i64 0, .int .i64 0]) ?_ 11 _ rfl; (with_reducible repeat (first | refine blk_drewN ?_ _ | refine blk_drew ?_ | refine blk_alloc ?_ _)); refine blk_put (cs := #[.int .i64 22, .int .i64 x5_5, .int .i64 0, .int .u16 0, .int .u16 (IntKind.u16.wrap (t142)), .int .u16 (IntKind.u16.wrap (t143)), .slice none 0 0, .slice none 0 0, .int .i64 0, .int .i64 0, .int .i64 0, .int .i64 0]) ?_ 10 _ rfl; (with_reducible repeat (first | refine blk_drewN ?_ _ | refine blk_drew ?_ | refine blk_alloc ?_ _)); refine blk_put (cs := #[.int .i64 22, .int .i64 x5_5, .int .i64 0, .int .u16 0, .int .u16 (IntKind.u16.wrap (t142)), .int .u16 (IntKind.u16.wrap (t143)), .slice none 0 0, .slice none 0 0, .int .i64 0, .int .i64 0, .int .i64 0, .int .i64 0]) ?_ 9 _ rfl; (with_reducible repeat (first | refine blk_drewN ?_ _ | refine blk_drew ?_ | refine blk_alloc ?_ _)); refine blk_put (cs := #[.int .i64 22, .int .i64 x5_5, .int .i64 0, .int .u16 0, .int .u16 (IntKind.u16.wrap (t142)), .int .u16 (IntKind.u16.wrap (t143)), .slice none 0 0, .slice none 0 0, .int .i64 0, .int .i64 0, .int .i64 0, .int .i64 0]) ?_ 8 _ rfl; (with_reducible repeat (first | refine blk_drewN ?_ _ | refine blk_drew ?_ | refine blk_alloc ?_ _)); refine blk_put (cs := #[.int .i64 22, .int .i64 x5_5, .int .i64 0, .int .u16 0, .int .u16 (IntKind.u16.wrap (t142)), .int .u16 (IntKind.u16.wrap (t143)), .slice none 0 0, .slice none 0 0, .int .i64 0, .int .i64 0, .int .i64 0, .int .i64 0]) ?_ 7 _ rfl; (with_reducible repeat (first | refine blk_drewN ?_ _ | refine blk_drew ?_ | refine blk_alloc ?_ _)); refine blk_put (cs := #[.int .i64 22, .int .i64 x5_5, .int .i64 0, .int .u16 0, .int .u16 (IntKind.u16.wrap (t142)), .int .u16 (IntKind.u16.wrap (t143)), .slice none 0 0, .slice none 0 0, .int .i64 0, .int .i64 0, .int .i64 0, .int .i64 0]) ?_ 6 _ rfl; (with_reducible repeat (first | refine blk_drewN ?_ _ | refine blk_drew ?_ | refine blk_alloc ?_ _)); refine blk_put (cs := #[.int .i64 22, .int .i64 x5_5, .int .i64 0, .int .u16 0, .int .u16 (IntKind.u16.wrap (t142)), .int .u16 0, .slice none 0 0, .slice none 0 0, .int .i64 0, .int .i64 0, .int .i64 0, .int .i64 0]) ?_ 5 _ rfl; (with_reducible repeat (first | refine blk_drewN ?_ _ | refine blk_drew ?_ | refine blk_alloc ?_ _)); refine blk_put (cs := #[.int .i64 22, .int .i64 x5_5, .int .i64 0, .int .u16 0, .int .u16 0, .int .u16 0, .slice none 0 0, .slice none 0 0, .int .i64 0, .int .i64 0, .int .i64 0, .int .i64 0]) ?_ 4 _ rfl; (with_reducible repeat (first | refine blk_drewN ?_ _ | refine blk_drew ?_ | refine blk_alloc ?_ _)); refine blk_put (cs := #[.int .i64 22, .int .i64 x5_5, .int .i64 0, .int .u16 0, .int .u16 0, .int .u16 0, .slice none 0 0, .slice none 0 0, .int .i64 0, .int .i64 0, .int .i64 0, .int .i64 0]) ?_ 3 _ rfl; (with_reducible repeat (first | refine blk_drewN ?_ _ | refine blk_drew ?_ | refine blk_alloc ?_ _)); refine blk_put (cs := #[.int .i64 22, .int .i64 x5_5, .int .i64 0, .int .u16 0, .int .u16 0, .int .u16 0, .slice none 0 0, .slice none 0 0, .int .i64 0, .int .i64 0, .int .i64 0, .int .i64 0]) ?_ 2 _ rfl; (with_reducible repeat (first | refine blk_drewN ?_ _ | refine blk_drew ?_ | refine blk_alloc ?_ _)); refine blk_put (cs := #[.int .i64 22, .int .i64 0, .int .i64 0, .int .u16 0, .int .u16 0, .int .u16 0, .slice none 0 0, .slice none 0 0, .int .i64 0, .int .i64 0, .int .i64 0, .int .i64 0]) ?_ 1 _ rfl; (with_reducible repeat (first | refine blk_drewN ?_ _ | refine blk_drew ?_ | refine blk_alloc ?_ _)); refine blk_put (cs := #[.int .i64 0, .int .i64 0, .int .i64 0, .int .u16 0, .int .u16 0, .int .u16 0, .slice none 0 0, .slice none 0 0, .int .i64 0, .int .i64 0, .int .i64 0, .int .i64 0]) ?_ 0 _ rfl; (with_reducible repeat (first | refine blk_drewN ?_ _ | refine blk_drew ?_ | refine blk_alloc ?_ _)); refine blk_far ?_ NB124_129.out _; (with_reducible repeat (first | refine blk_drewN ?_ _ | refine blk_drew ?_ | refine blk_alloc ?_ _)); refine blk_far ?_ NB124_129.out _; (with_reducible repeat (first | refine blk_drewN ?_ _ | refine blk_drew ?_ | refine blk_alloc ?_ _)); refine blk_far ?_ NB124_129.out _; (with_reducible repeat (first | refine blk_drewN ?_ _ | refine blk_drew ?_ | refine blk_alloc ?_ _)); exact BK124.out) Try.underlying26 rfl (by kernel_rfl)) rfl ?_
                  exact ⟨_, _, by first | rfl | (simp [errW_none, errW_some] <;> rfl) | (simp [*, errW_none, errW_some] <;> rfl), by first | exact Kd.R_nil _ _ _ _ _ | exact Kd.N_nil _ _ _ _ _ | exact Kd.V_nil _ _ _ _ _ | exact Kd.Q_nil _ _ _ _ _ | exact Kd.S_nil _ _ _ _ _, by first | exact Kd.R_nil _ _ _ _ _ | exact Kd.N_nil _ _ _ _ _ | exact Kd.V_nil _ _ _ _ _ | exact Kd.Q_nil _ _ _ _ _ | exact Kd.S_nil _ _ _ _ _, by repeat (first | (with_reducible first | exact HB.out | apply below_alloc | apply pw_below_drewN | apply below_drew1 | refine below_set ?_ GE124.out | refine below_set ?_ GE129.out) | exact HB.out)⟩
                 ·
                  rw [if_neg c77] at H
                  have c77b0 : (t130 == 13) = false := beq_eq_false_iff_ne.mpr c77
                  have c77b1 : (t130 != 13) = true := bne_iff_ne.mpr c77
                  by_cases c83 : t130 = 14
                  ·
                   rw [if_pos c83] at H
                   have c83b0 : (t130 == 14) = true := beq_iff_eq.mpr c83
                   have c83b1 : (t130 != 14) = false := bne_eq_false_iff_eq.mpr c83
                   clear c83
                   replace H := Option.bind_eq_some_iff.mp H
                   obtain ⟨t144, A840, H⟩ := H
                   replace H : ((busbarlaw0_Within.f a1 40).bind fun t147 => ((busbarlaw0_Digit.f a1 40 6).bind fun t148 => (some (23, x5_5, (wrap64 (1 + t126)), 0, 0, 0, ([] : List Bool), t144, t147, wrap64 (1 + t148), 0, 0)))) = some (r1, r2, r3, r4, r5, r6, r7, r8, r9, r10, r11, r12) := H
                   have A84 := Aside0.mk A840
                   clear A840
                   replace H := Option.bind_eq_some_iff.mp H
                   obtain ⟨t147, A850, H⟩ := H
                   replace H : ((busbarlaw0_Digit.f a1 40 6).bind fun t148 => (some (23, x5_5, (wrap64 (1 + t126)), 0, 0, 0, ([] : List Bool), t144, t147, wrap64 (1 + t148), 0, 0))) = some (r1, r2, r3, r4, r5, r6, r7, r8, r9, r10, r11, r12) := H
                   have A85 := Aside0.mk A850
                   clear A850
                   replace H := Option.bind_eq_some_iff.mp H
                   obtain ⟨t148, A860, H⟩ := H
                   replace H : (some (23, x5_5, (wrap64 (1 + t126)), 0, 0, 0, ([] : List Bool), t144, t147, wrap64 (1 + t148), 0, 0)) = some (r1, r2, r3, r4, r5, r6, r7, r8, r9, r10, r11, r12) := H
                   have A86 := Aside0.mk A860
                   clear A860
                   simp only [Option.some.injEq, Prod.mk.injEq] at H
                   obtain ⟨rfl, rfl, rfl, rfl, rfl, rfl, rfl, rfl, rfl, rfl, rfl, rfl⟩ := H
                   go_wp2_with (first | ((with_reducible refine gate_callee (f := 47) rfl ?_); refine goesL_ (some 122) rfl rfl Try.func47 (by kernel_rfl) rfl #[.int .i64 a1, .int .i64 (wrap64 (1 + t126))] rfl (by (try simp only [List.map_toArray, List.map_cons, List.map_nil]); first | done | rfl | (simp only [List.length_drop, List.length_take]; rfl)) ?_; (with_reducible refine (busbarlaw0_words.calls kj67 a1 (wrap64 (1 + t126)) t144 _ A84.out).mono ?_); rintro e w87 ⟨v145, rfl, ho0, hb⟩; refine ⟨_, rfl, ?_⟩; have n0_ := Aside0.mk (Kd.R_lower ho0 (below_size (by repeat (first | (with_reducible first | exact HB.out | apply below_alloc | apply pw_below_drewN | apply below_drew1 | refine below_set ?_ GE124.out | refine below_set ?_ GE129.out) | exact HB.out)))); have n1_ := Aside0.mk (blk_below (g := gb124) (o := .cells #[.int .i64 0, .int .i64 0, .int .i64 0, .int .u16 0, .int .u16 0, .int .u16 0, .slice none 0 0, .slice none 0 0, .int .i64 0, .int .i64 0, .int .i64 0, .int .i64 0] 26 (0, 0)) (by (with_reducible repeat (first | refine blk_drewN ?_ _ | refine blk_drew ?_ | refine blk_alloc ?_ _)); exact BK124.out) hb); have n2_ := Aside0.mk (blk_below (g := gb129) (o := .cells #[.int .i64 0, .int .i64 x5_5, .int .i64 0, .int .u16 0, .int .u16 0, .int .u16 0, .slice none 0 0, .slice none 0 0, .int .i64 0, .int .i64 0, .int .i64 0, .int .i64 0] 26 (0, 0)) (by (with_reducible repeat (first | refine blk_drewN ?_ _ | refine blk_drew ?_ | refine blk_alloc ?_ _)); exact BK129.out) hb); have n3_ := Aside0.mk (below_step (by repeat (first | (with_reducible first | exact HB.out | apply below_alloc | apply pw_below_drewN | apply below_drew1 | refine below_set ?_ GE124.out | refine below_set ?_ GE129.out) | exact HB.out)) hb); clear BK124; clear BK129; clear HB; have HO146 := n0_; have BK124 := n1_; have BK129 := n2_; have HB := n3_; clear n0_ n1_ n2_ n3_; (try clear hb); (try clear hb2); (try clear hk); (try clear hi); (try clear ho0)) | ((with_reducible refine gate_callee (f := 16) rfl ?_); refine goesL_ (some 124) rfl rfl Try.func16 (by kernel_rfl) rfl #[.int .i64 a1, .int .i64 40] rfl (by (try simp only [List.map_toArray, List.map_cons, List.map_nil]); first | done | rfl | (simp only [List.length_drop, List.length_take]; rfl)) ?_; (with_reducible refine (busbarlaw0_Within.calls a1 40 t147 _ A85.out).mono ?_); rintro e w' ⟨rfl, ⟨nd, rfl⟩⟩; refine ⟨_, rfl, ?_⟩; (try (rw [drewN_self w87]; generalize hq_ : World.drewN w87 _ = w87; have n0_ : Aside0 (Kd.R (Kd.int .u16) 22 w87 w.heap.size (fun _ => True) v145 t144) := ⟨by rw [← hq_]; exact (by (with_reducible repeat (first | apply Kd.R_alloc | apply Kd.R_drewN | apply Kd.R_drew)); exact HO146.out)⟩; have n1_ : Aside0 (w87.heap[gb124]? = some (.cells #[.int .i64 0, .int .i64 0, .int .i64 0, .int .u16 0, .int .u16 0, .int .u16 0, .slice none 0 0, .slice none 0 0, .int .i64 0, .int .i64 0, .int .i64 0, .int .i64 0] 26 (0, 0))) := ⟨by rw [← hq_]; exact (by (with_reducible repeat (first | refine blk_drewN ?_ _ | refine blk_drew ?_ | refine blk_alloc ?_ _)); exact BK124.out)⟩; have n2_ : Aside0 (w87.heap[gb129]? = some (.cells #[.int .i64 0, .int .i64 x5_5, .int .i64 0, .int .u16 0, .int .u16 0, .int .u16 0, .slice none 0 0, .slice none 0 0, .int .i64 0, .int .i64 0, .int .i64 0, .int .i64 0] 26 (0, 0))) := ⟨by rw [← hq_]; exact (by (with_reducible repeat (first | refine blk_drewN ?_ _ | refine blk_drew ?_ | refine blk_alloc ?_ _)); exact BK129.out)⟩; have n3_ : Aside0 (Below w.heap.size w w87) := ⟨by rw [← hq_]; exact (by repeat (first | (with_reducible first | exact HB.out | apply below_alloc | apply pw_below_drewN | apply below_drew1 | refine below_set ?_ GE124.out | refine below_set ?_ GE129.out) | exact HB.out))⟩; clear HO146 BK124 BK129 HB hq_; have HO146 := n0_; have BK124 := n1_; have BK129 := n2_; have HB := n3_; clear n0_ n1_ n2_ n3_))) | ((with_reducible refine gate_callee (f := 31) rfl ?_); refine goesL_ (some 126) rfl rfl Try.func31 (by kernel_rfl) rfl #[.int .i64 a1, .int .i64 40, .int .i64 6] rfl (by (try simp only [List.map_toArray, List.map_cons, List.map_nil]); first | done | rfl | (simp only [List.length_drop, List.length_take]; rfl)) ?_; (with_reducible refine (busbarlaw0_Digit.calls a1 40 6 t148 _ A86.out).mono ?_); rintro e w' ⟨rfl, ⟨nd, rfl⟩⟩; refine ⟨_, rfl, ?_⟩; (try (rw [drewN_self w87]; generalize hq_ : World.drewN w87 _ = w87; have n0_ : Aside0 (Kd.R (Kd.int .u16) 22 w87 w.heap.size (fun _ => True) v145 t144) := ⟨by rw [← hq_]; exact (by (with_reducible repeat (first | apply Kd.R_alloc | apply Kd.R_drewN | apply Kd.R_drew)); exact HO146.out)⟩; have n1_ : Aside0 (w87.heap[gb124]? = some (.cells #[.int .i64 0, .int .i64 0, .int .i64 0, .int .u16 0, .int .u16 0, .int .u16 0, .slice none 0 0, .slice none 0 0, .int .i64 0, .int .i64 0, .int .i64 0, .int .i64 0] 26 (0, 0))) := ⟨by rw [← hq_]; exact (by (with_reducible repeat (first | refine blk_drewN ?_ _ | refine blk_drew ?_ | refine blk_alloc ?_ _)); exact BK124.out)⟩; have n2_ : Aside0 (w87.heap[gb129]? = some (.cells #[.int .i64 0, .int .i64 x5_5, .int .i64 0, .int .u16 0, .int .u16 0, .int .u16 0, .slice none 0 0, .slice none 0 0, .int .i64 0, .int .i64 0, .int .i64 0, .int .i64 0] 26 (0, 0))) := ⟨by rw [← hq_]; exact (by (with_reducible repeat (first | refine blk_drewN ?_ _ | refine blk_drew ?_ | refine blk_alloc ?_ _)); exact BK129.out)⟩; have n3_ : Aside0 (Below w.heap.size w w87) := ⟨by rw [← hq_]; exact (by repeat (first | (with_reducible first | exact HB.out | apply below_alloc | apply pw_below_drewN | apply below_drew1 | refine below_set ?_ GE124.out | refine below_set ?_ GE129.out) | exact HB.out))⟩; clear HO146 BK124 BK129 HB hq_; have HO146 := n0_; have BK124 := n1_; have BK129 := n2_; have HB := n3_; clear n0_ n1_ n2_ n3_)); have hnb88 := NB129_124.out; have hnc88 := NB124_129.out; have hcz89_0 : w87.cell? ⟨gb129, 0, none⟩ = some (.int .i64 0) := (blk_cell BK129.out 0).trans rfl; have hcz89_1 : w87.cell? ⟨gb129, 1, none⟩ = some (.int .i64 x5_5) := (blk_cell BK129.out 1).trans rfl; have hcz89_2 : w87.cell? ⟨gb129, 2, none⟩ = some (.int .i64 0) := (blk_cell BK129.out 2).trans rfl; have hcz89_3 : w87.cell? ⟨gb129, 3, none⟩ = some (.int .u16 0) := (blk_cell BK129.out 3).trans rfl; have hcz89_4 : w87.cell? ⟨gb129, 4, none⟩ = some (.int .u16 0) := (blk_cell BK129.out 4).trans rfl; have hcz89_5 : w87.cell? ⟨gb129, 5, none⟩ = some (.int .u16 0) := (blk_cell BK129.out 5).trans rfl; have hcz89_6 : w87.cell? ⟨gb129, 6, none⟩ = some (.slice none 0 0) := (blk_cell BK129.out 6).trans rfl; have hcz89_7 : w87.cell? ⟨gb129, 7, none⟩ = some (.slice none 0 0) := (blk_cell BK129.out 7).trans rfl; have hcz89_8 : w87.cell? ⟨gb129, 8, none⟩ = some (.int .i64 0) := (blk_cell BK129.out 8).trans rfl; have hcz89_9 : w87.cell? ⟨gb129, 9, none⟩ = some (.int .i64 0) := (blk_cell BK129.out 9).trans rfl; have hcz89_10 : w87.cell? ⟨gb129, 10, none⟩ = some (.int .i64 0) := (blk_cell BK129.out 10).trans rfl; have hcz89_11 : w87.cell? ⟨gb129, 11, none⟩ = some (.int .i64 0) := (blk_cell BK129.out 11).trans rfl; have hfz89_0 := blk_frozen BK129.out 0; have hfz89_1 := blk_frozen BK129.out 1; have hfz89_2 := blk_frozen BK129.out 2; have hfz89_3 := blk_frozen BK129.out 3; have hfz89_4 := blk_frozen BK129.out 4; have hfz89_5 := blk_frozen BK129.out 5; have hfz89_6 := blk_frozen BK129.out 6; have hfz89_7 := blk_frozen BK129.out 7; have hfz89_8 := blk_frozen BK129.out 8; have hfz89_9 := blk_frozen BK129.out 9; have hfz89_10 := blk_frozen BK129.out 10; have hfz89_11 := blk_frozen BK129.out 11; obtain ⟨Ao90, co90, eo90⟩ := Kd.R_slice HO146.out; subst eo90; have hcz91_0 : w87.cell? ⟨gb124, 0, none⟩ = some (.int .i64 0) := (blk_cell BK124.out 0).trans rfl; have hcz91_1 : w87.cell? ⟨gb124, 1, none⟩ = some (.int .i64 0) := (blk_cell BK124.out 1).trans rfl; have hcz91_2 : w87.cell? ⟨gb124, 2, none⟩ = some (.int .i64 0) := (blk_cell BK124.out 2).trans rfl; have hcz91_3 : w87.cell? ⟨gb124, 3, none⟩ = some (.int .u16 0) := (blk_cell BK124.out 3).trans rfl; have hcz91_4 : w87.cell? ⟨gb124, 4, none⟩ = some (.int .u16 0) := (blk_cell BK124.out 4).trans rfl; have hcz91_5 : w87.cell? ⟨gb124, 5, none⟩ = some (.int .u16 0) := (blk_cell BK124.out 5).trans rfl; have hcz91_6 : w87.cell? ⟨gb124, 6, none⟩ = some (.slice none 0 0) := (blk_cell BK124.out 6).trans rfl; have hcz91_7 : w87.cell? ⟨gb124, 7, none⟩ = some (.slice none 0 0) := (blk_cell BK124.out 7).trans rfl; have hcz91_8 : w87.cell? ⟨gb124, 8, none⟩ = some (.int .i64 0) := (blk_cell BK124.out 8).trans rfl; have hcz91_9 : w87.cell? ⟨gb124, 9, none⟩ = some (.int .i64 0) := (blk_cell BK124.out 9).trans rfl; have hcz91_10 : w87.cell? ⟨gb124, 10, none⟩ = some (.int .i64 0) := (blk_cell BK124.out 10).trans rfl; have hcz91_11 : w87.cell? ⟨gb124, 11, none⟩ = some (.int .i64 0) := (blk_cell BK124.out 11).trans rfl; have hfz91_0 := blk_frozen BK124.out 0; have hfz91_1 := blk_frozen BK124.out 1; have hfz91_2 := blk_frozen BK124.out 2; have hfz91_3 := blk_frozen BK124.out 3; have hfz91_4 := blk_frozen BK124.out 4; have hfz91_5 := blk_frozen BK124.out 5; have hfz91_6 := blk_frozen BK124.out 6; have hfz91_7 := blk_frozen BK124.out 7; have hfz91_8 := blk_frozen BK124.out 8; have hfz91_9 := blk_frozen BK124.out 9; have hfz91_10 := blk_frozen BK124.out 10; have hfz91_11 := blk_frozen BK124.out 11))
                   refine bodyPost_ret (results_cell_row rfl _ _ gb124 26 #[.int .i64 23, .int .i64 x5_5, .int .i64 (wrap64 (1 + t126)), .int .u16 0, .int .u16 0, .int .u16 0, .slice none 0 0, .slice Ao90 t144.length co90, .int .i64 t147, .int .i64 (wrap64 (1 + t148)), .int .i64 0, .int .i64 0] (0, 0) _ rfl (by (with_reducible repeat (first | refine blk_drewN ?_ _ | refine blk_drew ?_ | refine blk_alloc ?_ _)); refine blk_put (cs := #[.int .i64 23, .int .i64 x5_5, .int .i64 (wrap64 (1 + t126)), .int .u16 0, .int .u16 0, .int .u16 0, .slice none 0 0, .slice Ao90 t144.length co90, .int .i64 t147, .int .i64 (wrap64 (1 + t148)), .int .i64 0, .int .i64 0]) ?_ 11 _ rfl; (with_reducible repeat (first | refine blk_drewN ?_ _ | refine blk_drew ?_ | refine blk_alloc ?_ _)); refine blk_put (cs := #[.int .i64 23, .int .i64 x5_5, .int .i64 (wrap64 (1 + t126)), .int .u16 0, .int .u16 0, .int .u16 0, .slice none 0 0, .slice Ao90 t144.length co90, .int .i64 t147, .int .i64 (wrap64 (1 + t148)), .int .i64 0, .int .i64 0]) ?_ 10 _ rfl; (with_reducible repeat (first | refine blk_drewN ?_ _ | refine blk_drew ?_ | refine blk_alloc ?_ _)); refine blk_put (cs := #[.int .i64 23, .int .i64 x5_5, .int .i64 (wrap64 (1 + t126)), .int .u16 0, .int .u16 0, .int .u16 0, .slice none 0 0, .slice Ao90 t144.length co90, .int .i64 t147, .int .i64 0, .int .i64 0, .int .i64 0]) ?_ 9 _ rfl; (with_reducible repeat (first | refine blk_drewN ?_ _ | refine blk_drew ?_ | refine blk_alloc ?_ _)); refine blk_put (cs := #[.int .i64 23, .int .i64 x5_5, .int .i64 (wrap64 (1 + t126)), .int .u16 0, .int .u16 0, .int .u16 0, .slice none 0 0, .slice Ao90 t144.length co90, .int .i64 0, .int .i64 0, .int .i64 0, .int .i64 0]) ?_ 8 _ rfl; (with_reducible repeat (first | refine blk_drewN ?_ _ | refine blk_drew ?_ | refine blk_alloc ?_ _)); refine blk_put (cs := #[.int .i64 23, .int .i64 x5_5, .int .i64 (wrap64 (1 + t126)), .int .u16 0, .int .u16 0, .int .u16 0, .slice none 0 0, .slice none 0 0, .int .i64 0, .int .i64 0, .int .i64 0, .int .i64 0]) ?_ 7 _ rfl; (with_reducible repeat (first | refine blk_drewN ?_ _ | refine blk_drew ?_ | refine blk_alloc ?_ _)); refine blk_put (cs := #[.int .i64 23, .int .i64 x5_5, .int .i64 (wrap64 (1 + t126)), .int .u16 0, .int .u16 0, .int .u16 0, .slice none 0 0, .slice none 0 0, .int .i64 0, .int .i64 0, .int .i64 0, .int .i64 0]) ?_ 6 _ rfl; (with_reducible repeat (first | refine blk_drewN ?_ _ | refine blk_drew ?_ | refine blk_alloc ?_ _)); refine blk_put (cs := #[.int .i64 23, .int .i64 x5_5, .int .i64 (wrap64 (1 + t126)), .int .u16 0, .int .u16 0, .int .u16 0, .slice none 0 0, .slice none 0 0, .int .i64 0, .int .i64 0, .int .i64 0, .int .i64 0]) ?_ 5 _ rfl; (with_reducible repeat (first | refine blk_drewN ?_ _ | refine blk_drew ?_ | refine blk_alloc ?_ _)); refine blk_put (cs := #[.int .i64 23, .int .i64 x5_5, .int .i64 (wrap64 (1 + t126)), .int .u16 0, .int .u16 0, .int .u16 0, .slice none 0 0, .slice none 0 0, .int .i64 0, .int .i64 0, .int .i64 0, .int .i64 0]) ?_ 4 _ rfl; (with_reducible repeat (first | refine blk_drewN ?_ _ | refine blk_drew ?_ | refine blk_alloc ?_ _)); refine blk_put (cs := #[.int .i64 23, .int .i64 x5_5, .int .i64 (wrap64 (1 + t126)), .int .u16 0, .int .u16 0, .int .u16 0, .slice none 0 0, .slice none 0 0, .int .i64 0, .int .i64 0, .int .i64 0, .int .i64 0]) ?_ 3 _ rfl; (with_reducible repeat (first | refine blk_drewN ?_ _ | refine blk_drew ?_ | refine blk_alloc ?_ _)); refine blk_put (cs := #[.int .i64 23, .int .i64 x5_5, .int .i64 0, .int .u16 0, .int .u16 0, .int .u16 0, .slice none 0 0, .slice none 0 0, .int .i64 0, .int .i64 0, .int .i64 0, .int .i64 0]) ?_ 2 _ rfl; (with_reducible repeat (first | refine blk_drewN ?_ _ | refine blk_drew ?_ | refine blk_alloc ?_ _)); refine blk_put (cs := #[.int .i64 23, .int .i64 0, .int .i64 0, .int .u16 0, .int .u16 0, .int .u16 0, .slice none 0 0, .slice none 0 0, .int .i64 0, .int .i64 0, .int .i64 0, .int .i64 0]) ?_ 1 _ rfl; (with_reducible repeat (first | refine blk_drewN ?_ _ | refine blk_drew ?_ | refine blk_alloc ?_ _)); refine blk_put (cs := #[.int .i64 0, .int .i64 0, .int .i64 0, .int .u16 0, .int .u16 0, .int .u16 0, .slice none 0 0, .slice none 0 0, .int .i64 0, .int .i64 0, .int .i64 0, .int .i64 0]) ?_ 0 _ rfl; (with_reducible repeat (first | refine blk_drewN ?_ _ | refine blk_drew ?_ | refine blk_alloc ?_ _)); refine blk_far ?_ NB124_129.out _; (with_reducible repeat (first | refine blk_drewN ?_ _ | refine blk_drew ?_ | refine blk_alloc ?_ _)); refine blk_far ?_ NB124_129.out _; (with_reducible repeat (first | refine blk_drewN ?_ _ | refine blk_drew ?_ | refine blk_alloc ?_ _)); refine blk_far ?_ NB124_129.out _; (with_reducible repeat (first | refine blk_drewN ?_ _ | refine blk_drew ?_ | refine blk_alloc ?_ _)); refine blk_far ?_ NB124_129.out _; (with_reducible repeat (first | refine blk_drewN ?_ _ | refine blk_drew ?_ | refine blk_alloc ?_ _)); refine blk_far ?_ NB124_129.out _; (with_reducible repeat (first | refine blk_drewN ?_ _ | refine blk_drew ?_ | refine blk_alloc ?_ _)); exact BK124.out) Try.underlying26 rfl (by kernel_rfl)) rfl ?_
                   exact ⟨_, _, by first | rfl | (simp [errW_none, errW_some] <;> rfl) | (simp [*, errW_none, errW_some] <;> rfl), by first | exact Kd.R_nil _ _ _ _ _ | exact Kd.N_nil _ _ _ _ _ | exact Kd.V_nil _ _ _ _ _ | exact Kd.Q_nil _ _ _ _ _ | exact Kd.S_nil _ _ _ _ _, by (with_reducible repeat (first | apply Kd.R_alloc | apply Kd.R_drewN | apply Kd.R_drew)); exact Kd.R_mono (Kd.R_far (p := ⟨gb124, 11, none⟩) (Kd.R_far (p := ⟨gb124, 10, none⟩) (Kd.R_far (p := ⟨gb124, 9, none⟩) (Kd.R_far (p := ⟨gb124, 8, none⟩) (Kd.R_far (p := ⟨gb124, 7, none⟩) (Kd.R_far (p := ⟨gb124, 6, none⟩) (Kd.R_far (p := ⟨gb124, 5, none⟩) (Kd.R_far (p := ⟨gb124, 4, none⟩) (Kd.R_far (p := ⟨gb124, 3, none⟩) (Kd.R_far (p := ⟨gb124, 2, none⟩) (Kd.R_far (p := ⟨gb124, 1, none⟩) (Kd.R_far (p := ⟨gb124, 0, none⟩) (Kd.R_far (p := ⟨gb129, 9, none⟩) (Kd.R_far (p := ⟨gb129, 8, none⟩) (Kd.R_far (p := ⟨gb129, 7, none⟩) (Kd.R_far (p := ⟨gb129, 2, none⟩) (Kd.R_far (p := ⟨gb129, 0, none⟩) (Kd.R_types (Kd.R_types HO146.out BK129.out (by decide)) BK124.out (by decide)) (fun _ hk => hk.1.2) (.int .i64 23)) (fun _ hk => hk.1.2) (.int .i64 (wrap64 (1 + t126)))) (fun _ hk => hk.1.2) (.slice Ao90 t144.length co90)) (fun _ hk => hk.1.2) (.int .i64 t147)) (fun _ hk => hk.1.2) (.int .i64 (wrap64 (1 + t148)))) (fun _ hk => hk.2) (.int .i64 23)) (fun _ hk => hk.2) (.int .i64 x5_5)) (fun _ hk => hk.2) (.int .i64 (wrap64 (1 + t126)))) (fun _ hk => hk.2) (.int .u16 0)) (fun _ hk => hk.2) (.int .u16 0)) (fun _ hk => hk.2) (.int .u16 0)) (fun _ hk => hk.2) (.slice none 0 0)) (fun _ hk => hk.2) (.slice Ao90 t144.length co90)) (fun _ hk => hk.2) (.int .i64 t147)) (fun _ hk => hk.2) (.int .i64 (wrap64 (1 + t148)))) (fun _ hk => hk.2) (.int .i64 0)) (fun _ hk => hk.2) (.int .i64 0)) (fun _ hk => trivial), by repeat (first | (with_reducible first | exact HB.out | apply below_alloc | apply pw_below_drewN | apply below_drew1 | refine below_set ?_ GE124.out | refine below_set ?_ GE129.out) | exact HB.out)⟩
                  ·
                   rw [if_neg c83] at H
                   have c83b0 : (t130 == 14) = false := beq_eq_false_iff_ne.mpr c83
                   have c83b1 : (t130 != 14) = true := bne_iff_ne.mpr c83
                   replace H := Option.bind_eq_some_iff.mp H
                   obtain ⟨t149, A920, H⟩ := H
                   replace H : ((busbarlaw0_Digit.f a1 4 5).bind fun t150 => (some (43, 0, 0, 0, 0, 0, ([] : List Bool), ([] : List Int), 0, 0, wrap64 (1 + t149), t150))) = some (r1, r2, r3, r4, r5, r6, r7, r8, r9, r10, r11, r12) := H
                   have A92 := Aside0.mk A920
                   clear A920
                   replace H := Option.bind_eq_some_iff.mp H
                   obtain ⟨t150, A930, H⟩ := H
                   replace H : (some (43, 0, 0, 0, 0, 0, ([] : List Bool), ([] : List Int), 0, 0, wrap64 (1 + t149), t150)) = some (r1, r2, r3, r4, r5, r6, r7, r8, r9, r10, r11, r12) := H
                   have A93 := Aside0.mk A930
                   clear A930
                   simp only [Option.some.injEq, Prod.mk.injEq] at H
                   obtain ⟨rfl, rfl, rfl, rfl, rfl, rfl, rfl, rfl, rfl, rfl, rfl, rfl⟩ := H
                   go_wp2_with (first | ((with_reducible refine gate_callee (f := 16) rfl ?_); refine goesL_ (some 24) rfl rfl Try.func16 (by kernel_rfl) rfl #[.int .i64 a1, .int .i64 4] rfl (by (try simp only [List.map_toArray, List.map_cons, List.map_nil]); first | done | rfl | (simp only [List.length_drop, List.length_take]; rfl)) ?_; (with_reducible refine (busbarlaw0_Within.calls a1 4 t149 _ A92.out).mono ?_); rintro e w' ⟨rfl, ⟨nd, rfl⟩⟩; refine ⟨_, rfl, ?_⟩; (try (rw [drewN_self wc]; generalize hq_ : World.drewN wc _ = wc; have n0_ : Aside0 (wc.heap[gb124]? = some (.cells #[.int .i64 0, .int .i64 0, .int .i64 0, .int .u16 0, .int .u16 0, .int .u16 0, .slice none 0 0, .slice none 0 0, .int .i64 0, .int .i64 0, .int .i64 0, .int .i64 0] 26 (0, 0))) := ⟨by rw [← hq_]; exact (by (with_reducible repeat (first | refine blk_drewN ?_ _ | refine blk_drew ?_ | refine blk_alloc ?_ _)); exact BK124.out)⟩; have n1_ : Aside0 (wc.heap[gb129]? = some (.cells #[.int .i64 0, .int .i64 x5_5, .int .i64 0, .int .u16 0, .int .u16 0, .int .u16 0, .slice none 0 0, .slice none 0 0, .int .i64 0, .int .i64 0, .int .i64 0, .int .i64 0] 26 (0, 0))) := ⟨by rw [← hq_]; exact (by (with_reducible repeat (first | refine blk_drewN ?_ _ | refine blk_drew ?_ | refine blk_alloc ?_ _)); exact BK129.out)⟩; have n2_ : Aside0 (Below w.heap.size w wc) := ⟨by rw [← hq_]; exact (by repeat (first | (with_reducible first | exact HB.out | apply below_alloc | apply pw_below_drewN | apply below_drew1 | refine below_set ?_ GE124.out | refine below_set ?_ GE129.out) | exact HB.out))⟩; clear BK124 BK129 HB hq_; have BK124 := n0_; have BK129 := n1_; have HB := n2_; clear n0_ n1_ n2_))) | ((with_reducible refine gate_callee (f := 31) rfl ?_); refine goesL_ (some 27) rfl rfl Try.func31 (by kernel_rfl) rfl #[.int .i64 a1, .int .i64 4, .int .i64 5] rfl (by (try simp only [List.map_toArray, List.map_cons, List.map_nil]); first | done | rfl | (simp only [List.length_drop, List.length_take]; rfl)) ?_; (with_reducible refine (busbarlaw0_Digit.calls a1 4 5 t150 _ A93.out).mono ?_); rintro e w' ⟨rfl, ⟨nd, rfl⟩⟩; refine ⟨_, rfl, ?_⟩; (try (rw [drewN_self wc]; generalize hq_ : World.drewN wc _ = wc; have n0_ : Aside0 (wc.heap[gb124]? = some (.cells #[.int .i64 0, .int .i64 0, .int .i64 0, .int .u16 0, .int .u16 0, .int .u16 0, .slice none 0 0, .slice none 0 0, .int .i64 0, .int .i64 0, .int .i64 0, .int .i64 0] 26 (0, 0))) := ⟨by rw [← hq_]; exact (by (with_reducible repeat (first | refine blk_drewN ?_ _ | refine blk_drew ?_ | refine blk_alloc ?_ _)); exact BK124.out)⟩; have n1_ : Aside0 (wc.heap[gb129]? = some (.cells #[.int .i64 0, .int .i64 x5_5, .int .i64 0, .int .u16 0, .int .u16 0, .int .u16 0, .slice none 0 0, .slice none 0 0, .int .i64 0, .int .i64 0, .int .i64 0, .int .i64 0] 26 (0, 0))) := ⟨by rw [← hq_]; exact (by (with_reducible repeat (first | refine blk_drewN ?_ _ | refine blk_drew ?_ | refine blk_alloc ?_ _)); exact BK129.out)⟩; have n2_ : Aside0 (Below w.heap.size w wc) := ⟨by rw [← hq_]; exact (by repeat (first | (with_reducible first | exact HB.out | apply below_alloc | apply pw_below_drewN | apply below_drew1 | refine below_set ?_ GE124.out | refine below_set ?_ GE129.out) | exact HB.out))⟩; clear BK124 BK129 HB hq_; have BK124 := n0_; have BK129 := n1_; have HB := n2_; clear n0_ n1_ n2_)); have hnb94 := NB124_129.out; have hnc94 := NB129_124.out; have hcz95_0 : wc.cell? ⟨gb124, 0, none⟩ = some (.int .i64 0) := (blk_cell BK124.out 0).trans rfl; have hcz95_1 : wc.cell? ⟨gb124, 1, none⟩ = some (.int .i64 0) := (blk_cell BK124.out 1).trans rfl; have hcz95_2 : wc.cell? ⟨gb124, 2, none⟩ = some (.int .i64 0) := (blk_cell BK124.out 2).trans rfl; have hcz95_3 : wc.cell? ⟨gb124, 3, none⟩ = some (.int .u16 0) := (blk_cell BK124.out 3).trans rfl; have hcz95_4 : wc.cell? ⟨gb124, 4, none⟩ = some (.int .u16 0) := (blk_cell BK124.out 4).trans rfl; have hcz95_5 : wc.cell? ⟨gb124, 5, none⟩ = some (.int .u16 0) := (blk_cell BK124.out 5).trans rfl; have hcz95_6 : wc.cell? ⟨gb124, 6, none⟩ = some (.slice none 0 0) := (blk_cell BK124.out 6).trans rfl; have hcz95_7 : wc.cell? ⟨gb124, 7, none⟩ = some (.slice none 0 0) := (blk_cell BK124.out 7).trans rfl; have hcz95_8 : wc.cell? ⟨gb124, 8, none⟩ = some (.int .i64 0) := (blk_cell BK124.out 8).trans rfl; have hcz95_9 : wc.cell? ⟨gb124, 9, none⟩ = some (.int .i64 0) := (blk_cell BK124.out 9).trans rfl; have hcz95_10 : wc.cell? ⟨gb124, 10, none⟩ = some (.int .i64 0) := (blk_cell BK124.out 10).trans rfl; have hcz95_11 : wc.cell? ⟨gb124, 11, none⟩ = some (.int .i64 0) := (blk_cell BK124.out 11).trans rfl; have hfz95_0 := blk_frozen BK124.out 0; have hfz95_1 := blk_frozen BK124.out 1; have hfz95_2 := blk_frozen BK124.out 2; have hfz95_3 := blk_frozen BK124.out 3; have hfz95_4 := blk_frozen BK124.out 4; have hfz95_5 := blk_frozen BK124.out 5; have hfz95_6 := blk_frozen BK124.out 6; have hfz95_7 := blk_frozen BK124.out 7; have hfz95_8 := blk_frozen BK124.out 8; have hfz95_9 := blk_frozen BK124.out 9; have hfz95_10 := blk_frozen BK124.out 10; have hfz95_11 := blk_frozen BK124.out 11))
                   refine bodyPost_ret (results_cell_row rfl _ _ gb124 26 #[.int .i64 43, .int .i64 0, .int .i64 0, .int .u16 0, .int .u16 0, .int .u16 0, .slice none 0 0, .slice none 0 0, .int .i64 0, .int .i64 0, .int .i64 (wrap64 (1 + t149)), .int .i64 t150] (0, 0) _ rfl (by (with_reducible repeat (first | refine blk_drewN ?_ _ | refine blk_drew ?_ | refine blk_alloc ?_ _)); refine blk_put (cs := #[.int .i64 43, .int .i64 0, .int .i64 0, .int .u16 0, .int .u16 0, .int .u16 0, .slice none 0 0, .slice none 0 0, .int .i64 0, .int .i64 0, .int .i64 (wrap64 (1 + t149)), .int .i64 0]) ?_ 11 _ rfl; (with_reducible repeat (first | refine blk_drewN ?_ _ | refine blk_drew ?_ | refine blk_alloc ?_ _)); refine blk_put (cs := #[.int .i64 43, .int .i64 0, .int .i64 0, .int .u16 0, .int .u16 0, .int .u16 0, .slice none 0 0, .slice none 0 0, .int .i64 0, .int .i64 0, .int .i64 0, .int .i64 0]) ?_ 10 _ rfl; (with_reducible repeat (first | refine blk_drewN ?_ _ | refine blk_drew ?_ | refine blk_alloc ?_ _)); refine blk_put (cs := #[.int .i64 43, .int .i64 0, .int .i64 0, .int .u16 0, .int .u16 0, .int .u16 0, .slice none 0 0, .slice none 0 0, .int .i64 0, .int .i64 0, .int .i64 0, .int .i64 0]) ?_ 9 _ rfl; (with_reducible repeat (first | refine blk_drewN ?_ _ | refine blk_drew ?_ | refine blk_alloc ?_ _)); refine blk_put (cs := #[.int .i64 43, .int .i64 0, .int .i64 0, .int .u16 0, .int .u16 0, .int .u16 0, .slice none 0 0, .slice none 0 0, .int .i64 0, .int .i64 0, .int .i64 0, .int .i64 0]) ?_ 8 _ rfl; (with_reducible repeat (first | refine blk_drewN ?_ _ | refine blk_drew ?_ | refine blk_alloc ?_ _)); refine blk_put (cs := #[.int .i64 43, .int .i64 0, .int .i64 0, .int .u16 0, .int .u16 0, .int .u16 0, .slice none 0 0, .slice none 0 0, .int .i64 0, .int .i64 0, .int .i64 0, .int .i64 0]) ?_ 7 _ rfl; (with_reducible repeat (first | refine blk_drewN ?_ _ | refine blk_drew ?_ | refine blk_alloc ?_ _)); refine blk_put (cs := #[.int .i64 43, .int .i64 0, .int .i64 0, .int .u16 0, .int .u16 0, .int .u16 0, .slice none 0 0, .slice none 0 0, .int .i64 0, .int .i64 0, .int .i64 0, .int .i64 0]) ?_ 6 _ rfl; (with_reducible repeat (first | refine blk_drewN ?_ _ | refine blk_drew ?_ | refine blk_alloc ?_ _)); refine blk_put (cs := #[.int .i64 43, .int .i64 0, .int .i64 0, .int .u16 0, .int .u16 0, .int .u16 0, .slice none 0 0, .slice none 0 0, .int .i64 0, .int .i64 0, .int .i64 0, .int .i64 0]) ?_ 5 _ rfl; (with_reducible repeat (first | refine blk_drewN ?_ _ | refine blk_drew ?_ | refine blk_alloc ?_ _)); refine blk_put (cs := #[.int .i64 43, .int .i64 0, .int .i64 0, .int .u16 0, .int .u16 0, .int .u16 0, .slice none 0 0, .slice none 0 0, .int .i64 0, .int .i64 0, .int .i64 0, .int .i64 0]) ?_ 4 _ rfl; (with_reducible repeat (first | refine blk_drewN ?_ _ | refine blk_drew ?_ | refine blk_alloc ?_ _)); refine blk_put (cs := #[.int .i64 43, .int .i64 0, .int .i64 0, .int .u16 0, .int .u16 0, .int .u16 0, .slice none 0 0, .slice none 0 0, .int .i64 0, .int .i64 0, .int .i64 0, .int .i64 0]) ?_ 3 _ rfl; (with_reducible repeat (first | refine blk_drewN ?_ _ | refine blk_drew ?_ | refine blk_alloc ?_ _)); refine blk_put (cs := #[.int .i64 43, .int .i64 0, .int .i64 0, .int .u16 0, .int .u16 0, .int .u16 0, .slice none 0 0, .slice none 0 0, .int .i64 0, .int .i64 0, .int .i64 0, .int .i64 0]) ?_ 2 _ rfl; (with_reducible repeat (first | refine blk_drewN ?_ _ | refine blk_drew ?_ | refine blk_alloc ?_ _)); refine blk_put (cs := #[.int .i64 43, .int .i64 0, .int .i64 0, .int .u16 0, .int .u16 0, .int .u16 0, .slice none 0 0, .slice none 0 0, .int .i64 0, .int .i64 0, .int .i64 0, .int .i64 0]) ?_ 1 _ rfl; (with_reducible repeat (first | refine blk_drewN ?_ _ | refine blk_drew ?_ | refine blk_alloc ?_ _)); refine blk_put (cs := #[.int .i64 0, .int .i64 0, .int .i64 0, .int .u16 0, .int .u16 0, .int .u16 0, .slice none 0 0, .slice none 0 0, .int .i64 0, .int .i64 0, .int .i64 0, .int .i64 0]) ?_ 0 _ rfl; (with_reducible repeat (first | refine blk_drewN ?_ _ | refine blk_drew ?_ | refine blk_alloc ?_ _)); exact BK124.out) Try.underlying26 rfl (by kernel_rfl)) rfl ?_
                   exact ⟨_, _, by first | rfl | (simp [errW_none, errW_some] <;> rfl) | (simp [*, errW_none, errW_some] <;> rfl), by first | exact Kd.R_nil _ _ _ _ _ | exact Kd.N_nil _ _ _ _ _ | exact Kd.V_nil _ _ _ _ _ | exact Kd.Q_nil _ _ _ _ _ | exact Kd.S_nil _ _ _ _ _, by first | exact Kd.R_nil _ _ _ _ _ | exact Kd.N_nil _ _ _ _ _ | exact Kd.V_nil _ _ _ _ _ | exact Kd.Q_nil _ _ _ _ _ | exact Kd.S_nil _ _ _ _ _, by repeat (first | (with_reducible first | exact HB.out | apply below_alloc | apply pw_below_drewN | apply below_drew1 | refine below_set ?_ GE124.out | refine below_set ?_ GE129.out) | exact HB.out)⟩

end Go.Proofs.Ytkioalfallhegaa.PCtrl
