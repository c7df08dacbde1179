/- The window's registers, and what an order is (group Ctrl). -/
import Derived.Test.YtkioalfallhegaaPCtrlx0
import Derived.Test.YtkioalfallhegaaPCtrlx15
import Derived.Test.YtkioalfallhegaaPCtrlx18
import Derived.Test.YtkioalfallhegaaPCtrlx19
import Derived.Test.YtkioalfallhegaaPCtrlx2
import Derived.Test.YtkioalfallhegaaPCtrlx5
import Derived.Test.YtkioalfallhegaaPCtrlx7
import Derived.Test.YtkioalfallhegaaPCtrlx8
import Derived.Test.YtkioalfallhegaaLemWord2GCtrl
set_option linter.unusedVariables false
set_option linter.unusedSimpArgs false
namespace Go.Proofs.Ytkioalfallhegaa.LemCtrlCtrl
open Go.RowKit Go.Proofs.Ytkioalfallhegaa.PCtrl Go.Proofs.YtkioalfallhegaaW.PrintWords Go.Proofs.YtkioalfallhegaaW.PrintLast Go.Proofs.YtkioalfallhegaaW.PrintMore Go.Proofs.Ytkioalfallhegaa.Num Go.Proofs.Ytkioalfallhegaa.LemWordGCtrl Go.Proofs.Ytkioalfallhegaa.LemSplitGCtrl Go.Proofs.Ytkioalfallhegaa.LemWord2GCtrl

theorem split4 (v : Int) (h0 : 0 ≤ v) (h1 : v < 18446744073709551616) : splitted v 4 false = (digs 4 v, true) := by
  unfold splitted
  rw [if_neg (show ¬ pw 4 ≤ v by unfold pw; simp [pw]; omega)]
  rfl
theorem regs_eq (a b c v : Int) (h0 : 0 ≤ v) (h1 : v < 18446744073709551616) {k : Nat} (hk : 10 ≤ k) : ctrl_Regs.f k a b c v = some (regsOf a b c (digs 4 v)) := by
  have h := split_all v h0 h1 4 (by omega) (by omega) false hk
  rw [split4 v h0 h1] at h
  unfold ctrl_Regs.f
  rw [show (4 : Int) = ((4 : Nat) : Int) from rfl, h, Option.bind_some, if_pos (digs_length 4 v)]
theorem refregs_eq (a b c v : Int) (h0 : 0 ≤ v) (h1 : v < 18446744073709551616) {k : Nat} (hk : 10 ≤ k) : busbarref21_Regs.f k a b c v = some (regsOf a b c (digs 4 v)) := by
  have h := refsplit_all v h0 h1 4 (by omega) (by omega) false hk
  rw [split4 v h0 h1] at h
  unfold busbarref21_Regs.f
  rw [Option.bind_some, show (4 : Int) = ((4 : Nat) : Int) from rfl, h, Option.bind_some, if_pos (by rw [digs_length]; simp)]
  rfl
theorem regsOf_length (a b c v : Int) : (regsOf a b c (digs 4 v)).length = 8 := by
  unfold regsOf
  simp [digs_length]
def part (l : List Int) (f t : Int) : List Int := if f < 0 then [] else if t > 8 then [] else if f ≥ t then [] else (l.drop f.toNat).take (t - f).toNat
theorem read_eq (a b c v f t : Int) (h0 : 0 ≤ v) (h1 : v < 18446744073709551616) {k : Nat} (hk : 10 ≤ k) : ctrl_Read.f k a b c v f t = some (part (regsOf a b c (digs 4 v)) f t) := by
  have h := split_all v h0 h1 4 (by omega) (by omega) false hk
  rw [split4 v h0 h1] at h
  unfold ctrl_Read.f part
  rw [show word_Split.f k v 4 false = some (digs 4 v, true) from h, Option.bind_some, if_pos (digs_length 4 v)]
  split
  · rfl
  · split
    · rfl
    · split <;> rfl
theorem refread_eq (a b c v f t : Int) (h0 : 0 ≤ v) (h1 : v < 18446744073709551616) {k : Nat} (hk : 10 ≤ k) : busbarref21_ReadRegs.f k a b c v f t = some (part (regsOf a b c (digs 4 v)) f t) := by
  unfold busbarref21_ReadRegs.f part
  rw [refregs_eq a b c v h0 h1 hk, Option.bind_some, if_pos (regsOf_length a b c v)]
  split
  · rfl
  · split
    · rfl
    · split
      · rfl
      · rw [List.drop_take, show t.toNat - f.toNat = (t - f).toNat by omega]
theorem part_length (l : List Int) (f t : Int) : (part l f t).length ≤ l.length := by
  unfold part
  split
  · simp
  · split
    · simp
    · split
      · simp
      · rw [List.length_take, List.length_drop]; omega
theorem part_seq (a b c v : Int) : part (regsOf a b c (digs 4 v)) 4 8 = digs 4 v := by
  unfold part regsOf
  rw [if_neg (by decide), if_neg (by decide), if_neg (by decide)]
  have h := digs_length 4 v
  simp only [List.cons_append, List.nil_append]
  show List.take 4 (List.drop 4 (0 :: _ :: _ :: _ :: digs 4 v)) = digs 4 v
  simp only [List.drop_succ_cons, List.drop_zero]
  rw [List.take_of_length_le (by omega)]
theorem order_eq (a0 a1 a2 a3 a4 a5 : Int) (b : List Bool) (l : List Int) (a8 a9 a10 a11 w : Int) : ctrl_Order.f a0 a1 a2 a3 a4 a5 b l a8 a9 a10 a11 w = busbarref21_Order.f a0 a1 a2 a3 a4 a5 b l a8 a9 a10 a11 w := rfl
theorem order_some (a0 a1 a2 a3 a4 a5 : Int) (b : List Bool) (l : List Int) (a8 a9 a10 a11 w : Int) : ∃ r, ctrl_Order.f a0 a1 a2 a3 a4 a5 b l a8 a9 a10 a11 w = some r := by
  unfold ctrl_Order.f
  split
  · split
    · exact ⟨_, rfl⟩
    · split
      · split
        · split
          · rename_i h
            rw [if_pos (by omega)]
            exact ⟨_, rfl⟩
          · exact ⟨_, rfl⟩
        · exact ⟨_, rfl⟩
      · exact ⟨_, rfl⟩
  · exact ⟨_, rfl⟩
end Go.Proofs.Ytkioalfallhegaa.LemCtrlCtrl
