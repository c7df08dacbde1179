/- What the splits answer, as plain numbers. -/
import Derived.Test.YtkioalfallhegaaPCtrlx0
import Derived.Test.YtkioalfallhegaaPCtrlx1
import Derived.Test.YtkioalfallhegaaPCtrlx17
import Derived.Test.YtkioalfallhegaaPCtrlx2
import Derived.Test.YtkioalfallhegaaLemWordGCtrl
set_option linter.unusedVariables false
set_option linter.unusedSimpArgs false
namespace Go.Proofs.Ytkioalfallhegaa.LemSplitGCtrl
open Go.RowKit Go.Proofs.Ytkioalfallhegaa.PCtrl Go.Proofs.YtkioalfallhegaaW.PrintWords Go.Proofs.YtkioalfallhegaaW.PrintLast Go.Proofs.YtkioalfallhegaaW.PrintMore Go.Proofs.Ytkioalfallhegaa.Num Go.Proofs.Ytkioalfallhegaa.LemWordGCtrl

/-- The n words of a number, the highest first. -/
def digs : Nat → Int → List Int
  | 0, _ => []
  | n + 1, v => digs n (v / 65536) ++ [v % 65536]
theorem digs_length (n : Nat) (v : Int) : (digs n v).length = n := by induction n generalizing v with
  | zero => rfl
  | succ n ih => simp [digs, ih]
theorem big_snoc (l : List Int) (w : Int) : big (l ++ [w]) = big l * 65536 + w := by simp [big]
theorem digs_w16 (n : Nat) (v : Int) : W16 (digs n v) := by induction n generalizing v with
  | zero => intro x hx; simp [digs] at hx
  | succ n ih =>
    intro x hx
    simp only [digs, List.mem_append, List.mem_singleton] at hx
    rcases hx with hx | rfl
    · exact ih _ x hx
    · omega
def pw : Nat → Int
  | 0 => 1
  | n + 1 => pw n * 65536
theorem pw_pos (n : Nat) : 0 < pw n := by induction n with
  | zero => decide
  | succ n ih => simp only [pw]; omega
theorem big_digs (n : Nat) (v : Int) (h0 : 0 ≤ v) (h : v < pw n) : big (digs n v) = v := by induction n generalizing v with
  | zero => simp only [pw] at h; have : v = 0 := by omega
            subst this; rfl
  | succ n ih =>
    simp only [pw] at h
    rw [digs, big_snoc, ih (v / 65536) (by omega) (by omega)]
    omega
theorem big_bound (l : List Int) (h : W16 l) : 0 ≤ big l ∧ big l < pw l.length := by
  have key : ∀ n (l : List Int), l.length = n → W16 l → 0 ≤ big l ∧ big l < pw l.length := by
    intro n
    induction n with
    | zero => intro l hl _; have : l = [] := List.eq_nil_of_length_eq_zero hl
              subst this; simp [big, pw]
    | succ n ih =>
      intro l hl hw
      have hne : l ≠ [] := by intro e; subst e; simp at hl
      have e := (List.dropLast_concat_getLast hne).symm
      have hd : l.dropLast.length = n := by simp [hl]
      have hi := ih l.dropLast hd (fun x hx => hw x (List.dropLast_subset l hx))
      have hg := hw (l.getLast hne) (List.getLast_mem hne)
      rw [hd] at hi
      rw [hl, e, big_snoc]
      simp only [pw]
      omega
  exact key _ l rfl h
theorem digs_big (l : List Int) (h : W16 l) : digs l.length (big l) = l := by
  have key : ∀ n (l : List Int), l.length = n → W16 l → digs n (big l) = l := by
    intro n
    induction n with
    | zero => intro l hl _; have : l = [] := List.eq_nil_of_length_eq_zero hl
              subst this; rfl
    | succ n ih =>
      intro l hl hw
      have hne : l ≠ [] := by intro e; subst e; simp at hl
      have e := (List.dropLast_concat_getLast hne).symm
      have hd : l.dropLast.length = n := by simp [hl]
      have hi := ih l.dropLast hd (fun x hx => hw x (List.dropLast_subset l hx))
      have hg := hw (l.getLast hne) (List.getLast_mem hne)
      rw [e, big_snoc, digs]
      rw [show (big l.dropLast * 65536 + l.getLast hne) / 65536 = big l.dropLast by omega, show (big l.dropLast * 65536 + l.getLast hne) % 65536 = l.getLast hne by omega, hi]
  exact key _ l rfl h
def splitted (v : Int) (n : Nat) (little : Bool) : List Int × Bool := if pw n ≤ v then ([], false) else (if little then (digs n v).reverse else digs n v, true)

theorem sr0 (x : Int) : shr .u64 x 0 = x := by simp [shr, IntKind.bits]
theorem sr16 (x : Int) : shr .u64 x 16 = x / 65536 := by simp [shr, IntKind.bits]
theorem sr32 (x : Int) : shr .u64 x 32 = x / 4294967296 := by simp [shr, IntKind.bits]
theorem sr48 (x : Int) : shr .u64 x 48 = x / 281474976710656 := by simp [shr, IntKind.bits]
theorem td (x : Int) (h0 : 0 ≤ x) (h1 : x < 18446744073709551616) : IntKind.u64.wrap (Int.tdiv x 65536) = x / 65536 := by rw [tdiv_pos h0 (by omega), u64_id (by omega) (by omega)]
theorem tm (x : Int) (h0 : 0 ≤ x) : IntKind.u16.wrap (Int.tmod x 65536) = x % 65536 := by rw [tmod_pos h0, u16_id (by omega) (by omega)]
theorem set0 (a x : Int) (l : List Int) : (a :: l).set 0 x = x :: l := rfl
theorem split1false (v : Int) (h0 : 0 ≤ v) (h1 : v < 18446744073709551616) : word_Split.f 10 v 1 false = some (splitted v 1 false) := by
  by_cases h : pw 1 ≤ v
  · have hs : splitted v 1 false = ([], false) := by unfold splitted; rw [if_pos h]
    rw [hs]
    simp only [pw] at h
    have hb : (v / 65536 != 0) = true := by simp; omega
    simp only [word_Split.f, word_Split.j0]
    simp [wrap64, uw0, uw16, uw32, uw48, sr16, sr32, sr48]
    have hq : ¬ v / 65536 = 0 := by simpa using hb
    simp [hq]
  · have hs : splitted v 1 false = (if false = true then (digs 1 v).reverse else digs 1 v, true) := by unfold splitted; rw [if_neg h]
    rw [hs]
    simp only [pw] at h
    have hq : v / 65536 = 0 := by omega
    simp only [word_Split.f, word_Split.j0, word_Split.l0, word_shift.f]
    simp [wrap64, uw0, uw16, uw32, uw48, sr0, sr16, sr32, sr48, hq, digs, u16_eq, List.replicate]
    try omega
theorem refsplit1false (v : Int) (h0 : 0 ≤ v) (h1 : v < 18446744073709551616) : busbarref1_Split.f 10 v 1 false = some (splitted v 1 false) := by
  have d0 := td v h0 h1
  have d1 := td (v / 65536) (by omega) (by omega)
  have d2 := td (v / 65536 / 65536) (by omega) (by omega)
  have d3 := td (v / 65536 / 65536 / 65536) (by omega) (by omega)
  have m0 := tm v h0
  have m1 := tm (v / 65536) (by omega)
  have m2 := tm (v / 65536 / 65536) (by omega)
  have m3 := tm (v / 65536 / 65536 / 65536) (by omega)
  by_cases h : pw 1 ≤ v
  · have hs : splitted v 1 false = ([], false) := by unfold splitted; rw [if_pos h]
    rw [hs]
    simp only [pw] at h
    have hq : ¬ v / 65536 = 0 := by omega
    simp only [busbarref1_Split.f, busbarref1_Split.j0, busbarref1_Split.l0]
    simp [wrap64, d0, d1, d2, d3, m0, m1, m2, m3, hq, List.replicate]
  · have hs : splitted v 1 false = (if false = true then (digs 1 v).reverse else digs 1 v, true) := by unfold splitted; rw [if_neg h]
    rw [hs]
    simp only [pw] at h
    have hq : v / 65536 = 0 := by omega
    simp only [busbarref1_Split.f, busbarref1_Split.j0, busbarref1_Split.l0]
    simp [wrap64, d0, d1, d2, d3, m0, m1, m2, m3, hq, List.replicate, digs]
theorem split1true (v : Int) (h0 : 0 ≤ v) (h1 : v < 18446744073709551616) : word_Split.f 10 v 1 true = some (splitted v 1 true) := by
  by_cases h : pw 1 ≤ v
  · have hs : splitted v 1 true = ([], false) := by unfold splitted; rw [if_pos h]
    rw [hs]
    simp only [pw] at h
    have hb : (v / 65536 != 0) = true := by simp; omega
    simp only [word_Split.f, word_Split.j0]
    simp [wrap64, uw0, uw16, uw32, uw48, sr16, sr32, sr48]
    have hq : ¬ v / 65536 = 0 := by simpa using hb
    simp [hq]
  · have hs : splitted v 1 true = (if true = true then (digs 1 v).reverse else digs 1 v, true) := by unfold splitted; rw [if_neg h]
    rw [hs]
    simp only [pw] at h
    have hq : v / 65536 = 0 := by omega
    simp only [word_Split.f, word_Split.j0, word_Split.l0, word_shift.f]
    simp [wrap64, uw0, uw16, uw32, uw48, sr0, sr16, sr32, sr48, hq, digs, u16_eq, List.replicate]
    try omega
theorem refsplit1true (v : Int) (h0 : 0 ≤ v) (h1 : v < 18446744073709551616) : busbarref1_Split.f 10 v 1 true = some (splitted v 1 true) := by
  have d0 := td v h0 h1
  have d1 := td (v / 65536) (by omega) (by omega)
  have d2 := td (v / 65536 / 65536) (by omega) (by omega)
  have d3 := td (v / 65536 / 65536 / 65536) (by omega) (by omega)
  have m0 := tm v h0
  have m1 := tm (v / 65536) (by omega)
  have m2 := tm (v / 65536 / 65536) (by omega)
  have m3 := tm (v / 65536 / 65536 / 65536) (by omega)
  by_cases h : pw 1 ≤ v
  · have hs : splitted v 1 true = ([], false) := by unfold splitted; rw [if_pos h]
    rw [hs]
    simp only [pw] at h
    have hq : ¬ v / 65536 = 0 := by omega
    simp only [busbarref1_Split.f, busbarref1_Split.j0, busbarref1_Split.l0]
    simp [wrap64, d0, d1, d2, d3, m0, m1, m2, m3, hq, List.replicate]
  · have hs : splitted v 1 true = (if true = true then (digs 1 v).reverse else digs 1 v, true) := by unfold splitted; rw [if_neg h]
    rw [hs]
    simp only [pw] at h
    have hq : v / 65536 = 0 := by omega
    simp only [busbarref1_Split.f, busbarref1_Split.j0, busbarref1_Split.l0]
    simp [wrap64, d0, d1, d2, d3, m0, m1, m2, m3, hq, List.replicate, digs]
theorem split2false (v : Int) (h0 : 0 ≤ v) (h1 : v < 18446744073709551616) : word_Split.f 10 v 2 false = some (splitted v 2 false) := by
  by_cases h : pw 2 ≤ v
  · have hs : splitted v 2 false = ([], false) := by unfold splitted; rw [if_pos h]
    rw [hs]
    simp only [pw] at h
    have hb : (v / 4294967296 != 0) = true := by simp; omega
    simp only [word_Split.f, word_Split.j0]
    simp [wrap64, uw0, uw16, uw32, uw48, sr16, sr32, sr48]
    have hq : ¬ v / 4294967296 = 0 := by simpa using hb
    simp [hq]
  · have hs : splitted v 2 false = (if false = true then (digs 2 v).reverse else digs 2 v, true) := by unfold splitted; rw [if_neg h]
    rw [hs]
    simp only [pw] at h
    have hq : v / 4294967296 = 0 := by omega
    simp only [word_Split.f, word_Split.j0, word_Split.l0, word_shift.f]
    simp [wrap64, uw0, uw16, uw32, uw48, sr0, sr16, sr32, sr48, hq, digs, u16_eq, List.replicate]
    try omega
theorem refsplit2false (v : Int) (h0 : 0 ≤ v) (h1 : v < 18446744073709551616) : busbarref1_Split.f 10 v 2 false = some (splitted v 2 false) := by
  have d0 := td v h0 h1
  have d1 := td (v / 65536) (by omega) (by omega)
  have d2 := td (v / 65536 / 65536) (by omega) (by omega)
  have d3 := td (v / 65536 / 65536 / 65536) (by omega) (by omega)
  have m0 := tm v h0
  have m1 := tm (v / 65536) (by omega)
  have m2 := tm (v / 65536 / 65536) (by omega)
  have m3 := tm (v / 65536 / 65536 / 65536) (by omega)
  by_cases h : pw 2 ≤ v
  · have hs : splitted v 2 false = ([], false) := by unfold splitted; rw [if_pos h]
    rw [hs]
    simp only [pw] at h
    have hq : ¬ v / 65536 / 65536 = 0 := by omega
    simp only [busbarref1_Split.f, busbarref1_Split.j0, busbarref1_Split.l0]
    simp [wrap64, d0, d1, d2, d3, m0, m1, m2, m3, hq, List.replicate]
  · have hs : splitted v 2 false = (if false = true then (digs 2 v).reverse else digs 2 v, true) := by unfold splitted; rw [if_neg h]
    rw [hs]
    simp only [pw] at h
    have hq : v / 65536 / 65536 = 0 := by omega
    simp only [busbarref1_Split.f, busbarref1_Split.j0, busbarref1_Split.l0]
    simp [wrap64, d0, d1, d2, d3, m0, m1, m2, m3, hq, List.replicate, digs]
theorem split2true (v : Int) (h0 : 0 ≤ v) (h1 : v < 18446744073709551616) : word_Split.f 10 v 2 true = some (splitted v 2 true) := by
  by_cases h : pw 2 ≤ v
  · have hs : splitted v 2 true = ([], false) := by unfold splitted; rw [if_pos h]
    rw [hs]
    simp only [pw] at h
    have hb : (v / 4294967296 != 0) = true := by simp; omega
    simp only [word_Split.f, word_Split.j0]
    simp [wrap64, uw0, uw16, uw32, uw48, sr16, sr32, sr48]
    have hq : ¬ v / 4294967296 = 0 := by simpa using hb
    simp [hq]
  · have hs : splitted v 2 true = (if true = true then (digs 2 v).reverse else digs 2 v, true) := by unfold splitted; rw [if_neg h]
    rw [hs]
    simp only [pw] at h
    have hq : v / 4294967296 = 0 := by omega
    simp only [word_Split.f, word_Split.j0, word_Split.l0, word_shift.f]
    simp [wrap64, uw0, uw16, uw32, uw48, sr0, sr16, sr32, sr48, hq, digs, u16_eq, List.replicate]
    try omega
theorem refsplit2true (v : Int) (h0 : 0 ≤ v) (h1 : v < 18446744073709551616) : busbarref1_Split.f 10 v 2 true = some (splitted v 2 true) := by
  have d0 := td v h0 h1
  have d1 := td (v / 65536) (by omega) (by omega)
  have d2 := td (v / 65536 / 65536) (by omega) (by omega)
  have d3 := td (v / 65536 / 65536 / 65536) (by omega) (by omega)
  have m0 := tm v h0
  have m1 := tm (v / 65536) (by omega)
  have m2 := tm (v / 65536 / 65536) (by omega)
  have m3 := tm (v / 65536 / 65536 / 65536) (by omega)
  by_cases h : pw 2 ≤ v
  · have hs : splitted v 2 true = ([], false) := by unfold splitted; rw [if_pos h]
    rw [hs]
    simp only [pw] at h
    have hq : ¬ v / 65536 / 65536 = 0 := by omega
    simp only [busbarref1_Split.f, busbarref1_Split.j0, busbarref1_Split.l0]
    simp [wrap64, d0, d1, d2, d3, m0, m1, m2, m3, hq, List.replicate]
  · have hs : splitted v 2 true = (if true = true then (digs 2 v).reverse else digs 2 v, true) := by unfold splitted; rw [if_neg h]
    rw [hs]
    simp only [pw] at h
    have hq : v / 65536 / 65536 = 0 := by omega
    simp only [busbarref1_Split.f, busbarref1_Split.j0, busbarref1_Split.l0]
    simp [wrap64, d0, d1, d2, d3, m0, m1, m2, m3, hq, List.replicate, digs]
theorem split3false (v : Int) (h0 : 0 ≤ v) (h1 : v < 18446744073709551616) : word_Split.f 10 v 3 false = some (splitted v 3 false) := by
  by_cases h : pw 3 ≤ v
  · have hs : splitted v 3 false = ([], false) := by unfold splitted; rw [if_pos h]
    rw [hs]
    simp only [pw] at h
    have hb : (v / 281474976710656 != 0) = true := by simp; omega
    simp only [word_Split.f, word_Split.j0]
    simp [wrap64, uw0, uw16, uw32, uw48, sr16, sr32, sr48]
    have hq : ¬ v / 281474976710656 = 0 := by simpa using hb
    simp [hq]
  · have hs : splitted v 3 false = (if false = true then (digs 3 v).reverse else digs 3 v, true) := by unfold splitted; rw [if_neg h]
    rw [hs]
    simp only [pw] at h
    have hq : v / 281474976710656 = 0 := by omega
    simp only [word_Split.f, word_Split.j0, word_Split.l0, word_shift.f]
    simp [wrap64, uw0, uw16, uw32, uw48, sr0, sr16, sr32, sr48, hq, digs, u16_eq, List.replicate]
    try omega
theorem refsplit3false (v : Int) (h0 : 0 ≤ v) (h1 : v < 18446744073709551616) : busbarref1_Split.f 10 v 3 false = some (splitted v 3 false) := by
  have d0 := td v h0 h1
  have d1 := td (v / 65536) (by omega) (by omega)
  have d2 := td (v / 65536 / 65536) (by omega) (by omega)
  have d3 := td (v / 65536 / 65536 / 65536) (by omega) (by omega)
  have m0 := tm v h0
  have m1 := tm (v / 65536) (by omega)
  have m2 := tm (v / 65536 / 65536) (by omega)
  have m3 := tm (v / 65536 / 65536 / 65536) (by omega)
  by_cases h : pw 3 ≤ v
  · have hs : splitted v 3 false = ([], false) := by unfold splitted; rw [if_pos h]
    rw [hs]
    simp only [pw] at h
    have hq : ¬ v / 65536 / 65536 / 65536 = 0 := by omega
    simp only [busbarref1_Split.f, busbarref1_Split.j0, busbarref1_Split.l0]
    simp [wrap64, d0, d1, d2, d3, m0, m1, m2, m3, hq, List.replicate]
  · have hs : splitted v 3 false = (if false = true then (digs 3 v).reverse else digs 3 v, true) := by unfold splitted; rw [if_neg h]
    rw [hs]
    simp only [pw] at h
    have hq : v / 65536 / 65536 / 65536 = 0 := by omega
    simp only [busbarref1_Split.f, busbarref1_Split.j0, busbarref1_Split.l0]
    simp [wrap64, d0, d1, d2, d3, m0, m1, m2, m3, hq, List.replicate, digs]
theorem split3true (v : Int) (h0 : 0 ≤ v) (h1 : v < 18446744073709551616) : word_Split.f 10 v 3 true = some (splitted v 3 true) := by
  by_cases h : pw 3 ≤ v
  · have hs : splitted v 3 true = ([], false) := by unfold splitted; rw [if_pos h]
    rw [hs]
    simp only [pw] at h
    have hb : (v / 281474976710656 != 0) = true := by simp; omega
    simp only [word_Split.f, word_Split.j0]
    simp [wrap64, uw0, uw16, uw32, uw48, sr16, sr32, sr48]
    have hq : ¬ v / 281474976710656 = 0 := by simpa using hb
    simp [hq]
  · have hs : splitted v 3 true = (if true = true then (digs 3 v).reverse else digs 3 v, true) := by unfold splitted; rw [if_neg h]
    rw [hs]
    simp only [pw] at h
    have hq : v / 281474976710656 = 0 := by omega
    simp only [word_Split.f, word_Split.j0, word_Split.l0, word_shift.f]
    simp [wrap64, uw0, uw16, uw32, uw48, sr0, sr16, sr32, sr48, hq, digs, u16_eq, List.replicate]
    try omega
theorem refsplit3true (v : Int) (h0 : 0 ≤ v) (h1 : v < 18446744073709551616) : busbarref1_Split.f 10 v 3 true = some (splitted v 3 true) := by
  have d0 := td v h0 h1
  have d1 := td (v / 65536) (by omega) (by omega)
  have d2 := td (v / 65536 / 65536) (by omega) (by omega)
  have d3 := td (v / 65536 / 65536 / 65536) (by omega) (by omega)
  have m0 := tm v h0
  have m1 := tm (v / 65536) (by omega)
  have m2 := tm (v / 65536 / 65536) (by omega)
  have m3 := tm (v / 65536 / 65536 / 65536) (by omega)
  by_cases h : pw 3 ≤ v
  · have hs : splitted v 3 true = ([], false) := by unfold splitted; rw [if_pos h]
    rw [hs]
    simp only [pw] at h
    have hq : ¬ v / 65536 / 65536 / 65536 = 0 := by omega
    simp only [busbarref1_Split.f, busbarref1_Split.j0, busbarref1_Split.l0]
    simp [wrap64, d0, d1, d2, d3, m0, m1, m2, m3, hq, List.replicate]
  · have hs : splitted v 3 true = (if true = true then (digs 3 v).reverse else digs 3 v, true) := by unfold splitted; rw [if_neg h]
    rw [hs]
    simp only [pw] at h
    have hq : v / 65536 / 65536 / 65536 = 0 := by omega
    simp only [busbarref1_Split.f, busbarref1_Split.j0, busbarref1_Split.l0]
    simp [wrap64, d0, d1, d2, d3, m0, m1, m2, m3, hq, List.replicate, digs]
theorem split4false (v : Int) (h0 : 0 ≤ v) (h1 : v < 18446744073709551616) : word_Split.f 10 v 4 false = some (splitted v 4 false) := by
  by_cases h : pw 4 ≤ v
  · have hs : splitted v 4 false = ([], false) := by unfold splitted; rw [if_pos h]
    rw [hs]
    simp only [pw] at h
    omega
  · have hs : splitted v 4 false = (if false = true then (digs 4 v).reverse else digs 4 v, true) := by unfold splitted; rw [if_neg h]
    rw [hs]
    simp only [pw] at h
    simp only [word_Split.f, word_Split.j0, word_Split.l0, word_shift.f]
    simp [wrap64, uw0, uw16, uw32, uw48, sr0, sr16, sr32, sr48, digs, u16_eq, List.replicate]
    try omega
theorem refsplit4false (v : Int) (h0 : 0 ≤ v) (h1 : v < 18446744073709551616) : busbarref1_Split.f 10 v 4 false = some (splitted v 4 false) := by
  have d0 := td v h0 h1
  have d1 := td (v / 65536) (by omega) (by omega)
  have d2 := td (v / 65536 / 65536) (by omega) (by omega)
  have d3 := td (v / 65536 / 65536 / 65536) (by omega) (by omega)
  have m0 := tm v h0
  have m1 := tm (v / 65536) (by omega)
  have m2 := tm (v / 65536 / 65536) (by omega)
  have m3 := tm (v / 65536 / 65536 / 65536) (by omega)
  by_cases h : pw 4 ≤ v
  · have hs : splitted v 4 false = ([], false) := by unfold splitted; rw [if_pos h]
    rw [hs]
    simp only [pw] at h
    have hq : ¬ v / 65536 / 65536 / 65536 / 65536 = 0 := by omega
    simp only [busbarref1_Split.f, busbarref1_Split.j0, busbarref1_Split.l0]
    simp [wrap64, d0, d1, d2, d3, m0, m1, m2, m3, hq, List.replicate]
  · have hs : splitted v 4 false = (if false = true then (digs 4 v).reverse else digs 4 v, true) := by unfold splitted; rw [if_neg h]
    rw [hs]
    simp only [pw] at h
    have hq : v / 65536 / 65536 / 65536 / 65536 = 0 := by omega
    simp only [busbarref1_Split.f, busbarref1_Split.j0, busbarref1_Split.l0]
    simp [wrap64, d0, d1, d2, d3, m0, m1, m2, m3, hq, List.replicate, digs]
theorem split4true (v : Int) (h0 : 0 ≤ v) (h1 : v < 18446744073709551616) : word_Split.f 10 v 4 true = some (splitted v 4 true) := by
  by_cases h : pw 4 ≤ v
  · have hs : splitted v 4 true = ([], false) := by unfold splitted; rw [if_pos h]
    rw [hs]
    simp only [pw] at h
    omega
  · have hs : splitted v 4 true = (if true = true then (digs 4 v).reverse else digs 4 v, true) := by unfold splitted; rw [if_neg h]
    rw [hs]
    simp only [pw] at h
    simp only [word_Split.f, word_Split.j0, word_Split.l0, word_shift.f]
    simp [wrap64, uw0, uw16, uw32, uw48, sr0, sr16, sr32, sr48, digs, u16_eq, List.replicate]
    try omega
theorem refsplit4true (v : Int) (h0 : 0 ≤ v) (h1 : v < 18446744073709551616) : busbarref1_Split.f 10 v 4 true = some (splitted v 4 true) := by
  have d0 := td v h0 h1
  have d1 := td (v / 65536) (by omega) (by omega)
  have d2 := td (v / 65536 / 65536) (by omega) (by omega)
  have d3 := td (v / 65536 / 65536 / 65536) (by omega) (by omega)
  have m0 := tm v h0
  have m1 := tm (v / 65536) (by omega)
  have m2 := tm (v / 65536 / 65536) (by omega)
  have m3 := tm (v / 65536 / 65536 / 65536) (by omega)
  by_cases h : pw 4 ≤ v
  · have hs : splitted v 4 true = ([], false) := by unfold splitted; rw [if_pos h]
    rw [hs]
    simp only [pw] at h
    have hq : ¬ v / 65536 / 65536 / 65536 / 65536 = 0 := by omega
    simp only [busbarref1_Split.f, busbarref1_Split.j0, busbarref1_Split.l0]
    simp [wrap64, d0, d1, d2, d3, m0, m1, m2, m3, hq, List.replicate]
  · have hs : splitted v 4 true = (if true = true then (digs 4 v).reverse else digs 4 v, true) := by unfold splitted; rw [if_neg h]
    rw [hs]
    simp only [pw] at h
    have hq : v / 65536 / 65536 / 65536 / 65536 = 0 := by omega
    simp only [busbarref1_Split.f, busbarref1_Split.j0, busbarref1_Split.l0]
    simp [wrap64, d0, d1, d2, d3, m0, m1, m2, m3, hq, List.replicate, digs]
end Go.Proofs.Ytkioalfallhegaa.LemSplitGCtrl
