/- Words and walks for ConfChecks (made of the session's own texts; each part by itself). -/
import Derived.Test.YtjlbgopgeepiaaaProg
import Derived.Below
import Derived.Deep.Draws
import Derived.Deep.AppendLies
import Derived.Maps.AppendAt
import Derived.OwnWalk
import Derived.Laws.BytesArg
import Derived.Laws.MakeOwn
import Derived.Laws.OwnMore
import Derived.Deep.OwnRows
import Derived.Tactics
import Derived.Lib.ConvBytes
import Derived.Laws.Slices
import Derived.WalkKit
import Derived.KernelRfl
import Derived.RowKit3
import Derived.Deep.LoopGhost
import Derived.Deep.QuietTactic
import Derived.BigQuiet
import Derived.WideLaws
import Derived.Deep.DeepCutAuto
import Derived.Deep.CutBlock
import Derived.Deep.RegionHeld3
import Derived.Laws.Rows
import Derived.Lib.AppendStr
import Derived.ArgAppend
import Derived.Laws.IdiomCopy
import Derived.OrdersHeld
import Derived.Laws.BitsLemmas
import Derived.RowKit
import Derived.Test.YtjlbgopgeepiaaaZConfChecks2
namespace Go.Proofs.Ytjlbgopgeepiaaa.PConf
open Go.RowKit Go.Proofs.YtjlbgopgeepiaaaW.PrintWords Go.Proofs.YtjlbgopgeepiaaaW.PrintLast Go.Proofs.YtjlbgopgeepiaaaW.PrintMore
attribute [local go_sem] max2_int min2_int max_two min_two max_three min_three max_four min_four plus_setCell_drewN plus_cell_same   -- for this text's walks alone
set_option linter.unusedVariables false
set_option linter.unusedSimpArgs false
def errW : Option Int → Value
 | none => .nilIface
 | some c => .iface 0 (.int .i64 c)
theorem errW_none : errW none = .nilIface := rfl
theorem errW_some (c : Int) : errW (some c) = .iface 0 (.int .i64 c) := rfl
theorem info5 : (Try.prog.info? 5).map (fun i => (i.zero, i.size, i.bytes)) = some (some (.int .u8 0), 1, 1) := by kernel_rfl
theorem info46 : (Try.prog.info? 46).map (fun i => (i.zero, i.size, i.bytes)) = some (some (.agg #[(.int .i64 0), (.int .i64 0), (.int .i64 0)]), 3, 24) := by kernel_rfl
theorem info48 : (Try.prog.info? 48).map (fun i => (i.zero, i.size, i.bytes)) = some (some (.agg #[(.int .i64 0), (.int .i64 0), (.int .i64 0)]), 3, 24) := by kernel_rfl
theorem info50 : (Try.prog.info? 50).map (fun i => (i.zero, i.size, i.bytes)) = some (some (.agg #[(.int .i64 0), (.string ⟨#[]⟩)]), 2, 24) := by kernel_rfl
structure S46 where
 f0 : Int
 f1 : Int
 f2 : Int
def z46 : S46 := ⟨(0 : Int), (0 : Int), (0 : Int)⟩
def k46 : Kd S46 := Kd.iso (Kd.pair (Kd.int .i64) (Kd.pair (Kd.int .i64) (Kd.int .i64))) (fun x : S46 => (x.f0, x.f1, x.f2))
theorem k46_open {w : World} {x : S46} {cs : List Value} (h : k46.K w x cs) : cs = [.int .i64 x.f0, .int .i64 x.f1, .int .i64 x.f2] := by
 obtain ⟨_, _, rfl, rfl, ⟨_, _, rfl, rfl, rfl⟩⟩ := h
 exact rfl
theorem k46_mkM (w : World) (base : Nat) (ok : Nat → Prop) (x : S46)  : k46.M w base ok x [.int .i64 x.f0, .int .i64 x.f1, .int .i64 x.f2] := ⟨[.int .i64 x.f0], [.int .i64 x.f1, .int .i64 x.f2], rfl, rfl, ⟨[.int .i64 x.f1], [.int .i64 x.f2], rfl, rfl, rfl⟩⟩
def rd_T46 (xs : List S46) (i : Int) : S46 := xs.getD i.toNat z46
theorem at_T46 {w : World} {A : Option Addr} {n : Nat} {xs : List S46} (h : Kd.C k46 w A n xs) (i : Int) (h0 : 0 ≤ i) (h1 : i < n) : ∃ ad , A = some ad ∧ w.cell? (ad.add (i.toNat * 3)) = some (.int .i64 (rd_T46 xs i).f0) ∧ w.cell? ⟨(ad.add (i.toNat * 3)).block, (ad.add (i.toNat * 3)).off + 1, none⟩ = some (.int .i64 (rd_T46 xs i).f1) ∧ w.cell? ⟨(ad.add (i.toNat * 3)).block, (ad.add (i.toNat * 3)).off + 2, none⟩ = some (.int .i64 (rd_T46 xs i).f2) := by
 obtain ⟨ad, c, e, _, hK, hc0⟩ := Kd.C_get h z46 i h0 h1
 have hc : ∀ j u, c[j]? = some u → w.cell? (ad.add (i.toNat * 3 + j)) = some u := hc0
 obtain rfl := k46_open hK
 exact ⟨ad, e, hc 0 _ rfl, by rw [← add_field _ _ 1 (by omega)]; exact hc 1 _ rfl, by rw [← add_field _ _ 2 (by omega)]; exact hc 2 _ rfl⟩
structure S48 where
 f0 : Int
 f1 : Int
 f2 : Int
def z48 : S48 := ⟨(0 : Int), (0 : Int), (0 : Int)⟩
def k48 : Kd S48 := Kd.iso (Kd.pair (Kd.int .i64) (Kd.pair (Kd.int .i64) (Kd.int .i64))) (fun x : S48 => (x.f0, x.f1, x.f2))
theorem k48_open {w : World} {x : S48} {cs : List Value} (h : k48.K w x cs) : cs = [.int .i64 x.f0, .int .i64 x.f1, .int .i64 x.f2] := by
 obtain ⟨_, _, rfl, rfl, ⟨_, _, rfl, rfl, rfl⟩⟩ := h
 exact rfl
theorem k48_mkM (w : World) (base : Nat) (ok : Nat → Prop) (x : S48)  : k48.M w base ok x [.int .i64 x.f0, .int .i64 x.f1, .int .i64 x.f2] := ⟨[.int .i64 x.f0], [.int .i64 x.f1, .int .i64 x.f2], rfl, rfl, ⟨[.int .i64 x.f1], [.int .i64 x.f2], rfl, rfl, rfl⟩⟩
def rd_T48 (xs : List S48) (i : Int) : S48 := xs.getD i.toNat z48
theorem at_T48 {w : World} {A : Option Addr} {n : Nat} {xs : List S48} (h : Kd.C k48 w A n xs) (i : Int) (h0 : 0 ≤ i) (h1 : i < n) : ∃ ad , A = some ad ∧ w.cell? (ad.add (i.toNat * 3)) = some (.int .i64 (rd_T48 xs i).f0) ∧ w.cell? ⟨(ad.add (i.toNat * 3)).block, (ad.add (i.toNat * 3)).off + 1, none⟩ = some (.int .i64 (rd_T48 xs i).f1) ∧ w.cell? ⟨(ad.add (i.toNat * 3)).block, (ad.add (i.toNat * 3)).off + 2, none⟩ = some (.int .i64 (rd_T48 xs i).f2) := by
 obtain ⟨ad, c, e, _, hK, hc0⟩ := Kd.C_get h z48 i h0 h1
 have hc : ∀ j u, c[j]? = some u → w.cell? (ad.add (i.toNat * 3 + j)) = some u := hc0
 obtain rfl := k48_open hK
 exact ⟨ad, e, hc 0 _ rfl, by rw [← add_field _ _ 1 (by omega)]; exact hc 1 _ rfl, by rw [← add_field _ _ 2 (by omega)]; exact hc 2 _ rfl⟩
structure S50 where
 f0 : Int
 f1 : ByteArray
def z50 : S50 := ⟨(0 : Int), (⟨#[]⟩ : ByteArray)⟩
def k50 : Kd S50 := Kd.iso (Kd.pair (Kd.int .i64) Kd.string) (fun x : S50 => (x.f0, x.f1))
theorem k50_open {w : World} {x : S50} {cs : List Value} (h : k50.K w x cs) : cs = [.int .i64 x.f0, .string x.f1] := by
 obtain ⟨_, _, rfl, rfl, rfl⟩ := h
 exact rfl
theorem k50_openM {w : World} {base : Nat} {ok : Nat → Prop} {x : S50} {cs : List Value} (h : k50.M w base ok x cs) : cs = [.int .i64 x.f0, .string x.f1] := by
 obtain ⟨_, _, rfl, rfl, rfl⟩ := h
 exact rfl
theorem k50_mkM (w : World) (base : Nat) (ok : Nat → Prop) (x : S50)  : k50.M w base ok x [.int .i64 x.f0, .string x.f1] := ⟨[.int .i64 x.f0], [.string x.f1], rfl, rfl, rfl⟩
def rd_T50 (xs : List S50) (i : Int) : S50 := xs.getD i.toNat z50
theorem at_T50 {w : World} {A : Option Addr} {n : Nat} {xs : List S50} (h : Kd.C k50 w A n xs) (i : Int) (h0 : 0 ≤ i) (h1 : i < n) : ∃ ad , A = some ad ∧ w.cell? (ad.add (i.toNat * 2)) = some (.int .i64 (rd_T50 xs i).f0) ∧ w.cell? ⟨(ad.add (i.toNat * 2)).block, (ad.add (i.toNat * 2)).off + 1, none⟩ = some (.string (rd_T50 xs i).f1) := by
 obtain ⟨ad, c, e, _, hK, hc0⟩ := Kd.C_get h z50 i h0 h1
 have hc : ∀ j u, c[j]? = some u → w.cell? (ad.add (i.toNat * 2 + j)) = some u := hc0
 obtain rfl := k50_open hK
 exact ⟨ad, e, hc 0 _ rfl, by rw [← add_field _ _ 1 (by omega)]; exact hc 1 _ rfl⟩
structure S27 where
 f0 : (List S46)
 f1 : (List S48)
 f2 : Int
 f3 : Int
 f4 : Int
 f5 : Int
 f6 : Int
 f7 : Int
 f8 : Int
 f9 : Int
 f10 : Int
 f11 : Int
 f12 : (List S50)
def k27 : Kd S27 := Kd.iso (Kd.pair (Kd.slice 46 k46) (Kd.pair (Kd.slice 48 k48) (Kd.pair (Kd.int .i64) (Kd.pair (Kd.int .i64) (Kd.pair (Kd.int .i64) (Kd.pair (Kd.int .i64) (Kd.pair (Kd.int .i64) (Kd.pair (Kd.int .i64) (Kd.pair (Kd.int .i64) (Kd.pair (Kd.int .i64) (Kd.pair (Kd.int .i64) (Kd.pair (Kd.int .u64) (Kd.slice 50 k50))))))))))))) (fun x : S27 => (x.f0, x.f1, x.f2, x.f3, x.f4, x.f5, x.f6, x.f7, x.f8, x.f9, x.f10, x.f11, x.f12))
end Go.Proofs.Ytjlbgopgeepiaaa.PConf
namespace Go.Proofs.Ytjlbgopgeepiaaa.PConf
open Go.RowKit Go.Proofs.YtjlbgopgeepiaaaW.PrintWords Go.Proofs.YtjlbgopgeepiaaaW.PrintLast Go.Proofs.YtjlbgopgeepiaaaW.PrintMore
attribute [local go_sem] max2_int min2_int max_two min_two max_three min_three max_four min_four plus_setCell_drewN plus_cell_same   -- for this text's walks alone
set_option linter.unusedVariables false
set_option linter.unusedSimpArgs false
def conf_within.f (a0 : Int) (a1 : Int) (a2 : Int) : Option (Bool) := if a0 ≥ a1 then (some (decide (a0 ≤ a2))) else (some false)
set_option maxHeartbeats 8000000 in
set_option maxRecDepth 100000 in
theorem conf_within.calls (a0 : Int) (a1 : Int) (a2 : Int) (r : Bool) (w : World) (h : conf_within.f a0 a1 a2 = some r) :
  Calls Try.prog 19 #[.int .i64 a0, .int .i64 a1, .int .i64 a2] w fun e w' => e = .returned (.bool r) ∧ Drawn0 w w' := by
 have H : (if a0 ≥ a1 then (some (decide (a0 ≤ a2))) else (some false)) = some r := h
 clear h
 by_cases c4 : a0 ≥ a1
 ·
  rw [if_pos c4] at H
  have c4b0 : decide (a1 ≤ a0) = true := decide_eq_true c4
  clear c4
  obtain rfl := Option.some.inj H
  go_enter Try.func19, Try.ntmps19
  go_wp2
  go_ret
  exact ⟨by first | rfl | (simp; done) | (simp [*]; done), by repeat (first | exact Drawn0.refl _ | apply Drawn0.step)⟩
 ·
  rw [if_neg c4] at H
  have c4b0 : decide (a1 ≤ a0) = false := decide_eq_false c4
  clear c4
  obtain rfl := Option.some.inj H
  go_enter Try.func19, Try.ntmps19
  go_wp2
  go_ret
  exact ⟨by first | rfl | (simp; done) | (simp [*]; done), by repeat (first | exact Drawn0.refl _ | apply Drawn0.step)⟩
end Go.Proofs.Ytjlbgopgeepiaaa.PConf
namespace Go.Proofs.Ytjlbgopgeepiaaa.PConf
open Go.RowKit Go.Proofs.YtjlbgopgeepiaaaW.PrintWords Go.Proofs.YtjlbgopgeepiaaaW.PrintLast Go.Proofs.YtjlbgopgeepiaaaW.PrintMore
attribute [local go_sem] max2_int min2_int max_two min_two max_three min_three max_four min_four plus_setCell_drewN plus_cell_same   -- for this text's walks alone
set_option linter.unusedVariables false
set_option linter.unusedSimpArgs false
def span_Right.f (a0_0 : Int) (a0_1 : Int) (a0_2 : Int) : Option (Bool) := if a0_0 ≥ 0 then (if a0_0 < 4 then (if a0_1 ≥ 0 then (if a0_2 ≤ 65536 then (some (decide (a0_1 < a0_2))) else (some false)) else (some false)) else (some false)) else (some false)
set_option maxHeartbeats 8000000 in
set_option maxRecDepth 100000 in
theorem span_Right.calls (a0_0 : Int) (a0_1 : Int) (a0_2 : Int) (r : Bool) (w : World) (h : span_Right.f a0_0 a0_1 a0_2 = some r) :
  Calls Try.prog 48 #[.agg #[.int .i64 a0_0, .int .i64 a0_1, .int .i64 a0_2]] w fun e w' => e = .returned (.bool r) ∧ Below w.heap.size w w' := by
 have hu46 := Try.underlying46
 have HB := Aside0.mk (Below.refl w.heap.size w)
 have H : (if a0_0 ≥ 0 then (if a0_0 < 4 then (if a0_1 ≥ 0 then (if a0_2 ≤ 65536 then (some (decide (a0_1 < a0_2))) else (some false)) else (some false)) else (some false)) else (some false)) = some r := h
 clear h
 by_cases c2 : a0_0 ≥ 0
 ·
  rw [if_pos c2] at H
  have c2b0 : decide (0 ≤ a0_0) = true := decide_eq_true c2
  clear c2
  by_cases c3 : a0_0 < 4
  ·
   rw [if_pos c3] at H
   have c3b0 : decide (a0_0 < 4) = true := decide_eq_true c3
   clear c3
   by_cases c4 : a0_1 ≥ 0
   ·
    rw [if_pos c4] at H
    have c4b0 : decide (0 ≤ a0_1) = true := decide_eq_true c4
    clear c4
    by_cases c5 : a0_2 ≤ 65536
    ·
     rw [if_pos c5] at H
     have c5b0 : decide (a0_2 ≤ 65536) = true := decide_eq_true c5
     clear c5
     obtain rfl := Option.some.inj H
     go_enter Try.func48, Try.ntmps48
     go_wp2_with (first | ((with_reducible refine gate_dst (N := 1) rfl ?_); refine box_event ?hg (N := 1) ?hd (cs := #[.int .i64 a0_0, .int .i64 a0_1, .int .i64 a0_2]) (t := 46) ?hr ?_; (case hd => rfl); (case hg => rfl); (case hr => first | (go_simp; done) | (go_simp; rfl)); intro gb101 hg w6 hbox hb; have BK101 := Aside0.mk (hbox); have GW101 := Aside0.mk ((by rw [hg]; exact (below_size (HB.out)) : w.heap.size ≤ gb101)); have GE101 := Aside0.mk ((by rw [hg]; exact (below_size (HB.out)) : w.heap.size ≤ gb101)); replace HB := Aside0.mk (below_step (HB.out) hb); clear hb hbox hg; obtain ⟨hcz7_0, hcz7_1, hcz7_2⟩ := blkc3 BK101.out; obtain ⟨hfz7_0, hfz7_1, hfz7_2⟩ := blkf3 BK101.out))
     go_ret
     exact ⟨by first | rfl | (simp [errW_none, errW_some] <;> rfl) | (simp [*, errW_none, errW_some] <;> rfl), HB.out⟩
    ·
     rw [if_neg c5] at H
     have c5b0 : decide (a0_2 ≤ 65536) = false := decide_eq_false c5
     clear c5
     obtain rfl := Option.some.inj H
     go_enter Try.func48, Try.ntmps48
     go_wp2_with (first | ((with_reducible refine gate_dst (N := 1) rfl ?_); refine box_event ?hg (N := 1) ?hd (cs := #[.int .i64 a0_0, .int .i64 a0_1, .int .i64 a0_2]) (t := 46) ?hr ?_; (case hd => rfl); (case hg => rfl); (case hr => first | (go_simp; done) | (go_simp; rfl)); intro gb101 hg w8 hbox hb; have BK101 := Aside0.mk (hbox); have GW101 := Aside0.mk ((by rw [hg]; exact (below_size (HB.out)) : w.heap.size ≤ gb101)); have GE101 := Aside0.mk ((by rw [hg]; exact (below_size (HB.out)) : w.heap.size ≤ gb101)); replace HB := Aside0.mk (below_step (HB.out) hb); clear hb hbox hg; obtain ⟨hcz9_0, hcz9_1, hcz9_2⟩ := blkc3 BK101.out; obtain ⟨hfz9_0, hfz9_1, hfz9_2⟩ := blkf3 BK101.out))
     go_ret
     exact ⟨by first | rfl | (simp [errW_none, errW_some] <;> rfl) | (simp [*, errW_none, errW_some] <;> rfl), HB.out⟩
   ·
    rw [if_neg c4] at H
    have c4b0 : decide (0 ≤ a0_1) = false := decide_eq_false c4
    clear c4
    obtain rfl := Option.some.inj H
    go_enter Try.func48, Try.ntmps48
    go_wp2_with (first | ((with_reducible refine gate_dst (N := 1) rfl ?_); refine box_event ?hg (N := 1) ?hd (cs := #[.int .i64 a0_0, .int .i64 a0_1, .int .i64 a0_2]) (t := 46) ?hr ?_; (case hd => rfl); (case hg => rfl); (case hr => first | (go_simp; done) | (go_simp; rfl)); intro gb101 hg w10 hbox hb; have BK101 := Aside0.mk (hbox); have GW101 := Aside0.mk ((by rw [hg]; exact (below_size (HB.out)) : w.heap.size ≤ gb101)); have GE101 := Aside0.mk ((by rw [hg]; exact (below_size (HB.out)) : w.heap.size ≤ gb101)); replace HB := Aside0.mk (below_step (HB.out) hb); clear hb hbox hg; obtain ⟨hcz11_0, hcz11_1, hcz11_2⟩ := blkc3 BK101.out; obtain ⟨hfz11_0, hfz11_1, hfz11_2⟩ := blkf3 BK101.out))
    go_ret
    exact ⟨by first | rfl | (simp [errW_none, errW_some] <;> rfl) | (simp [*, errW_none, errW_some] <;> rfl), HB.out⟩
  ·
   rw [if_neg c3] at H
   have c3b0 : decide (a0_0 < 4) = false := decide_eq_false c3
   clear c3
   obtain rfl := Option.some.inj H
   go_enter Try.func48, Try.ntmps48
   go_wp2_with (first | ((with_reducible refine gate_dst (N := 1) rfl ?_); refine box_event ?hg (N := 1) ?hd (cs := #[.int .i64 a0_0, .int .i64 a0_1, .int .i64 a0_2]) (t := 46) ?hr ?_; (case hd => rfl); (case hg => rfl); (case hr => first | (go_simp; done) | (go_simp; rfl)); intro gb101 hg w12 hbox hb; have BK101 := Aside0.mk (hbox); have GW101 := Aside0.mk ((by rw [hg]; exact (below_size (HB.out)) : w.heap.size ≤ gb101)); have GE101 := Aside0.mk ((by rw [hg]; exact (below_size (HB.out)) : w.heap.size ≤ gb101)); replace HB := Aside0.mk (below_step (HB.out) hb); clear hb hbox hg; obtain ⟨hcz13_0, hcz13_1, hcz13_2⟩ := blkc3 BK101.out; obtain ⟨hfz13_0, hfz13_1, hfz13_2⟩ := blkf3 BK101.out))
   go_ret
   exact ⟨by first | rfl | (simp [errW_none, errW_some] <;> rfl) | (simp [*, errW_none, errW_some] <;> rfl), HB.out⟩
 ·
  rw [if_neg c2] at H
  have c2b0 : decide (0 ≤ a0_0) = false := decide_eq_false c2
  clear c2
  obtain rfl := Option.some.inj H
  go_enter Try.func48, Try.ntmps48
  go_wp2_with (first | ((with_reducible refine gate_dst (N := 1) rfl ?_); refine box_event ?hg (N := 1) ?hd (cs := #[.int .i64 a0_0, .int .i64 a0_1, .int .i64 a0_2]) (t := 46) ?hr ?_; (case hd => rfl); (case hg => rfl); (case hr => first | (go_simp; done) | (go_simp; rfl)); intro gb101 hg w14 hbox hb; have BK101 := Aside0.mk (hbox); have GW101 := Aside0.mk ((by rw [hg]; exact (below_size (HB.out)) : w.heap.size ≤ gb101)); have GE101 := Aside0.mk ((by rw [hg]; exact (below_size (HB.out)) : w.heap.size ≤ gb101)); replace HB := Aside0.mk (below_step (HB.out) hb); clear hb hbox hg; obtain ⟨hcz15_0, hcz15_1, hcz15_2⟩ := blkc3 BK101.out; obtain ⟨hfz15_0, hfz15_1, hfz15_2⟩ := blkf3 BK101.out))
  go_ret
  exact ⟨by first | rfl | (simp [errW_none, errW_some] <;> rfl) | (simp [*, errW_none, errW_some] <;> rfl), HB.out⟩
end Go.Proofs.Ytjlbgopgeepiaaa.PConf
namespace Go.Proofs.Ytjlbgopgeepiaaa.PConf
open Go.RowKit Go.Proofs.YtjlbgopgeepiaaaW.PrintWords Go.Proofs.YtjlbgopgeepiaaaW.PrintLast Go.Proofs.YtjlbgopgeepiaaaW.PrintMore
attribute [local go_sem] max2_int min2_int max_two min_two max_three min_three max_four min_four plus_setCell_drewN plus_cell_same   -- for this text's walks alone
set_option linter.unusedVariables false
set_option linter.unusedSimpArgs false
def span_ahead.f (a0_0 : Int) (a0_1 : Int) (a0_2 : Int) (a1_0 : Int) (a1_1 : Int) (a1_2 : Int) : Option (Bool) := if a0_0 < a1_0 then (some true) else (if a0_0 = a1_0 then (some (decide (a0_2 < a1_1))) else (some false))
set_option maxHeartbeats 8000000 in
set_option maxRecDepth 100000 in
theorem span_ahead.calls (a0_0 : Int) (a0_1 : Int) (a0_2 : Int) (a1_0 : Int) (a1_1 : Int) (a1_2 : Int) (r : Bool) (w : World) (h : span_ahead.f a0_0 a0_1 a0_2 a1_0 a1_1 a1_2 = some r) :
  Calls Try.prog 49 #[.agg #[.int .i64 a0_0, .int .i64 a0_1, .int .i64 a0_2], .agg #[.int .i64 a1_0, .int .i64 a1_1, .int .i64 a1_2]] w fun e w' => e = .returned (.bool r) ∧ Below w.heap.size w w' := by
 have hu46 := Try.underlying46
 have HB := Aside0.mk (Below.refl w.heap.size w)
 have H : (if a0_0 < a1_0 then (some true) else (if a0_0 = a1_0 then (some (decide (a0_2 < a1_1))) else (some false))) = some r := h
 clear h
 by_cases c3 : a0_0 < a1_0
 ·
  rw [if_pos c3] at H
  have c3b0 : decide (a0_0 < a1_0) = true := decide_eq_true c3
  clear c3
  obtain rfl := Option.some.inj H
  go_enter Try.func49, Try.ntmps49
  go_wp2_with (first | ((with_reducible refine gate_dst (N := 2) rfl ?_); refine box_event ?hg (N := 2) ?hd (cs := #[.int .i64 a0_0, .int .i64 a0_1, .int .i64 a0_2]) (t := 46) ?hr ?_; (case hd => rfl); (case hg => rfl); (case hr => first | (go_simp; done) | (go_simp; rfl)); intro gb102 hg w4 hbox hb; have BK102 := Aside0.mk (hbox); have GW102 := Aside0.mk ((by rw [hg]; exact (below_size (HB.out)) : w.heap.size ≤ gb102)); have GE102 := Aside0.mk ((by rw [hg]; exact (below_size (HB.out)) : w.heap.size ≤ gb102)); replace HB := Aside0.mk (below_step (HB.out) hb); clear hb hbox hg) | ((with_reducible refine gate_dst (N := 3) rfl ?_); refine box_event ?hg (N := 3) ?hd (cs := #[.int .i64 a1_0, .int .i64 a1_1, .int .i64 a1_2]) (t := 46) ?hr ?_; (case hd => rfl); (case hg => rfl); (case hr => first | (go_simp; done) | (go_simp; rfl)); intro gb103 hg w5 hbox hb; have BK103 := Aside0.mk (hbox); have GW103 := Aside0.mk ((by rw [hg]; exact (below_size (HB.out)) : w.heap.size ≤ gb103)); have GE103 := Aside0.mk ((by rw [hg]; exact (below_size (HB.out)) : w.heap.size ≤ gb103)); replace HB := Aside0.mk (below_step (HB.out) hb); have NB102_103 := Aside0.mk ((by rw [hg]; exact Nat.ne_of_lt (blk_lt (g := gb102) (o := .cells #[.int .i64 a0_0, .int .i64 a0_1, .int .i64 a0_2] 46 (0, 0)) (BK102.out)) : gb102 ≠ gb103)); have NB103_102 := Aside0.mk ((by rw [hg]; exact Nat.ne_of_gt (blk_lt (g := gb102) (o := .cells #[.int .i64 a0_0, .int .i64 a0_1, .int .i64 a0_2] 46 (0, 0)) (BK102.out)) : gb103 ≠ gb102)); replace BK102 := Aside0.mk (blk_below BK102.out hb); clear hb hbox hg; have hnb6 := NB102_103.out; have hnc6 := NB103_102.out; obtain ⟨hcz7_0, hcz7_1, hcz7_2⟩ := blkc3 BK102.out; obtain ⟨hfz7_0, hfz7_1, hfz7_2⟩ := blkf3 BK102.out; obtain ⟨hcz8_0, hcz8_1, hcz8_2⟩ := blkc3 BK103.out; obtain ⟨hfz8_0, hfz8_1, hfz8_2⟩ := blkf3 BK103.out))
  go_ret
  exact ⟨by first | rfl | (simp [errW_none, errW_some] <;> rfl) | (simp [*, errW_none, errW_some] <;> rfl), HB.out⟩
 ·
  rw [if_neg c3] at H
  have c3b0 : decide (a0_0 < a1_0) = false := decide_eq_false c3
  clear c3
  by_cases c9 : a0_0 = a1_0
  ·
   rw [if_pos c9] at H
   have c9b0 : (a0_0 == a1_0) = true := beq_iff_eq.mpr c9
   have c9b1 : (a0_0 != a1_0) = false := bne_eq_false_iff_eq.mpr c9
   clear c9
   obtain rfl := Option.some.inj H
   go_enter Try.func49, Try.ntmps49
   go_wp2_with (first | ((with_reducible refine gate_dst (N := 2) rfl ?_); refine box_event ?hg (N := 2) ?hd (cs := #[.int .i64 a0_0, .int .i64 a0_1, .int .i64 a0_2]) (t := 46) ?hr ?_; (case hd => rfl); (case hg => rfl); (case hr => first | (go_simp; done) | (go_simp; rfl)); intro gb102 hg w10 hbox hb; have BK102 := Aside0.mk (hbox); have GW102 := Aside0.mk ((by rw [hg]; exact (below_size (HB.out)) : w.heap.size ≤ gb102)); have GE102 := Aside0.mk ((by rw [hg]; exact (below_size (HB.out)) : w.heap.size ≤ gb102)); replace HB := Aside0.mk (below_step (HB.out) hb); clear hb hbox hg) | ((with_reducible refine gate_dst (N := 3) rfl ?_); refine box_event ?hg (N := 3) ?hd (cs := #[.int .i64 a1_0, .int .i64 a1_1, .int .i64 a1_2]) (t := 46) ?hr ?_; (case hd => rfl); (case hg => rfl); (case hr => first | (go_simp; done) | (go_simp; rfl)); intro gb103 hg w11 hbox hb; have BK103 := Aside0.mk (hbox); have GW103 := Aside0.mk ((by rw [hg]; exact (below_size (HB.out)) : w.heap.size ≤ gb103)); have GE103 := Aside0.mk ((by rw [hg]; exact (below_size (HB.out)) : w.heap.size ≤ gb103)); replace HB := Aside0.mk (below_step (HB.out) hb); have NB102_103 := Aside0.mk ((by rw [hg]; exact Nat.ne_of_lt (blk_lt (g := gb102) (o := .cells #[.int .i64 a0_0, .int .i64 a0_1, .int .i64 a0_2] 46 (0, 0)) (BK102.out)) : gb102 ≠ gb103)); have NB103_102 := Aside0.mk ((by rw [hg]; exact Nat.ne_of_gt (blk_lt (g := gb102) (o := .cells #[.int .i64 a0_0, .int .i64 a0_1, .int .i64 a0_2] 46 (0, 0)) (BK102.out)) : gb103 ≠ gb102)); replace BK102 := Aside0.mk (blk_below BK102.out hb); clear hb hbox hg; have hnb12 := NB102_103.out; have hnc12 := NB103_102.out; obtain ⟨hcz13_0, hcz13_1, hcz13_2⟩ := blkc3 BK102.out; obtain ⟨hfz13_0, hfz13_1, hfz13_2⟩ := blkf3 BK102.out; obtain ⟨hcz14_0, hcz14_1, hcz14_2⟩ := blkc3 BK103.out; obtain ⟨hfz14_0, hfz14_1, hfz14_2⟩ := blkf3 BK103.out))
   go_ret
   exact ⟨by first | rfl | (simp [errW_none, errW_some] <;> rfl) | (simp [*, errW_none, errW_some] <;> rfl), HB.out⟩
  ·
   rw [if_neg c9] at H
   have c9b0 : (a0_0 == a1_0) = false := beq_eq_false_iff_ne.mpr c9
   have c9b1 : (a0_0 != a1_0) = true := bne_iff_ne.mpr c9
   obtain rfl := Option.some.inj H
   go_enter Try.func49, Try.ntmps49
   go_wp2_with (first | ((with_reducible refine gate_dst (N := 2) rfl ?_); refine box_event ?hg (N := 2) ?hd (cs := #[.int .i64 a0_0, .int .i64 a0_1, .int .i64 a0_2]) (t := 46) ?hr ?_; (case hd => rfl); (case hg => rfl); (case hr => first | (go_simp; done) | (go_simp; rfl)); intro gb102 hg w15 hbox hb; have BK102 := Aside0.mk (hbox); have GW102 := Aside0.mk ((by rw [hg]; exact (below_size (HB.out)) : w.heap.size ≤ gb102)); have GE102 := Aside0.mk ((by rw [hg]; exact (below_size (HB.out)) : w.heap.size ≤ gb102)); replace HB := Aside0.mk (below_step (HB.out) hb); clear hb hbox hg) | ((with_reducible refine gate_dst (N := 3) rfl ?_); refine box_event ?hg (N := 3) ?hd (cs := #[.int .i64 a1_0, .int .i64 a1_1, .int .i64 a1_2]) (t := 46) ?hr ?_; (case hd => rfl); (case hg => rfl); (case hr => first | (go_simp; done) | (go_simp; rfl)); intro gb103 hg w16 hbox hb; have BK103 := Aside0.mk (hbox); have GW103 := Aside0.mk ((by rw [hg]; exact (below_size (HB.out)) : w.heap.size ≤ gb103)); have GE103 := Aside0.mk ((by rw [hg]; exact (below_size (HB.out)) : w.heap.size ≤ gb103)); replace HB := Aside0.mk (below_step (HB.out) hb); have NB102_103 := Aside0.mk ((by rw [hg]; exact Nat.ne_of_lt (blk_lt (g := gb102) (o := .cells #[.int .i64 a0_0, .int .i64 a0_1, .int .i64 a0_2] 46 (0, 0)) (BK102.out)) : gb102 ≠ gb103)); have NB103_102 := Aside0.mk ((by rw [hg]; exact Nat.ne_of_gt (blk_lt (g := gb102) (o := .cells #[.int .i64 a0_0, .int .i64 a0_1, .int .i64 a0_2] 46 (0, 0)) (BK102.out)) : gb103 ≠ gb102)); replace BK102 := Aside0.mk (blk_below BK102.out hb); clear hb hbox hg; have hnb17 := NB102_103.out; have hnc17 := NB103_102.out; obtain ⟨hcz18_0, hcz18_1, hcz18_2⟩ := blkc3 BK102.out; obtain ⟨hfz18_0, hfz18_1, hfz18_2⟩ := blkf3 BK102.out; obtain ⟨hcz19_0, hcz19_1, hcz19_2⟩ := blkc3 BK103.out; obtain ⟨hfz19_0, hfz19_1, hfz19_2⟩ := blkf3 BK103.out))
   go_ret
   exact ⟨by first | rfl | (simp [errW_none, errW_some] <;> rfl) | (simp [*, errW_none, errW_some] <;> rfl), HB.out⟩
end Go.Proofs.Ytjlbgopgeepiaaa.PConf
namespace Go.Proofs.Ytjlbgopgeepiaaa.PConf
open Go.RowKit Go.Proofs.YtjlbgopgeepiaaaW.PrintWords Go.Proofs.YtjlbgopgeepiaaaW.PrintLast Go.Proofs.YtjlbgopgeepiaaaW.PrintMore
attribute [local go_sem] max2_int min2_int max_two min_two max_three min_three max_four min_four plus_setCell_drewN plus_cell_same   -- for this text's walks alone
set_option linter.unusedVariables false
set_option linter.unusedSimpArgs false
def span_Canon.l0 : Nat → List (S46) → List (S46) → Int → Int → Option (Bool)
 | 0, _, _, _, _ => none
 | k + 1, x0, x5, x6, x7 => if x7 < x6 then (if 0 ≤ x7 then (if x7 < (x5.length : Int) then ((span_Right.f ((rd_T46 x5 x7).f0) ((rd_T46 x5 x7).f1) ((rd_T46 x5 x7).f2)).bind fun t106 => (if t106 = true then (if x7 > 0 then (if 0 ≤ (wrap64 (x7 - 1)) then (if (wrap64 (x7 - 1)) < (x0.length : Int) then ((span_ahead.f ((rd_T46 x0 (wrap64 (x7 - 1))).f0) ((rd_T46 x0 (wrap64 (x7 - 1))).f1) ((rd_T46 x0 (wrap64 (x7 - 1))).f2) ((rd_T46 x5 x7).f0) ((rd_T46 x5 x7).f1) ((rd_T46 x5 x7).f2)).bind fun t108 => (if t108 = true then (span_Canon.l0 k x0 x5 x6 (wrap64 (x7 + 1))) else (some false))) else (none)) else (none)) else (span_Canon.l0 k x0 x5 x6 (wrap64 (x7 + 1)))) else (some false))) else (none)) else (none)) else (some true)
def span_Canon.f (k : Nat) (l0 : List (S46)) : Option (Bool) := span_Canon.l0 k l0 l0 (l0.length : Int) 0
theorem span_Canon.mono_l : ∀ k, (∀ y0 y1 y2 y3, LeO (span_Canon.l0 k y0 y1 y2 y3) (span_Canon.l0 (k + 1) y0 y1 y2 y3))
 | 0 => fun _ _ _ _ r h => by simp [span_Canon.l0] at h
 | k + 1 => by
  have ih0 := span_Canon.mono_l k
  ·
   intro y0 y1 y2 y3
   unfold span_Canon.l0
   repeat' first
   | (with_reducible exact ih0 _ _ _ _)
   | (with_reducible exact LeO.refl _)
   | (with_reducible exact LeO.none _)
   | (with_reducible refine LeO.ite ?_ ?_)
   | (with_reducible refine LeO.bind ?_ (fun _ => ?_))
   | exact ih0 _ _ _ _
   | exact LeO.none _
   | refine LeO.ite ?_ ?_
   | refine LeO.bind ?_ (fun _ => ?_)
theorem span_Canon.mono : ∀ a0 k, LeO (span_Canon.f k a0) (span_Canon.f (k + 1) a0) := by
 intro a0 k
 have ih0 := span_Canon.mono_l k
 unfold span_Canon.f
 repeat' first
   | (with_reducible exact ih0 _ _ _ _)
   | (with_reducible exact LeO.refl _)
   | (with_reducible exact LeO.none _)
   | (with_reducible refine LeO.ite ?_ ?_)
   | (with_reducible refine LeO.bind ?_ (fun _ => ?_))
   | exact ih0 _ _ _ _
   | exact LeO.none _
   | refine LeO.ite ?_ ?_
   | refine LeO.bind ?_ (fun _ => ?_)
def span_Canon.T4 : Bool × List (List Nat × List Nat) := (true, [([], []), ([0], [0]), ([1], [1]), ([2, 1], [2]), ([3], [3]), ([4, 3], [3, 4]), ([5, 3, 3], [3, 5]), ([6], [6]), ([6], [6]), ([8, 6], [6, 8]), ([7, 9, 6], [6, 7, 9]), ([10, 6], [6, 10]), ([6], [6]), ([11, 12, 6, 6], [6, 11, 12]), ([13, 6], [6, 13]), ([6, 14, 3], [3, 6, 14]), ([3, 15], [3, 15])])
def span_Canon.B4 : List Nat := [0, 1, 3, 7, 15, 31, 63, 127, 127, 383, 1023, 2047, 127, 8191, 16383, 32767, 65535]
theorem span_Canon.tab4 : rtab .any (opsOf Try.f35 4) = span_Canon.T4 := by kernel_rfl
theorem span_Canon.bits4 : waitsOk span_Canon.T4.2 span_Canon.B4 = true := by kernel_rfl
set_option maxHeartbeats 8000000 in
set_option maxRecDepth 100000 in
theorem span_Canon.calls (k : Nat) (A0 : Option Addr) (c0 : Nat) (l0 : List (S46)) (r : Bool) (w : World) (hr0 : Kd.C k46 w A0 l0.length l0) (hc0 : l0.length ≤ c0) (h : span_Canon.f k l0 = some r) :
  Calls Try.prog 35 #[.slice A0 l0.length c0] w fun e w' => e = .returned (.bool r) ∧ Below w.heap.size w w' := by
 have hu46 := Try.underlying46
 have HR0 := Aside0.mk hr0
 have HC0 := Aside0.mk hc0
 clear hr0 hc0
 have HB := Aside0.mk (Below.refl w.heap.size w)
 have H : (span_Canon.l0 k l0 l0 (l0.length : Int) 0) = some r := h
 clear h
 have H' := Aside0.mk H
 clear H
 go_enter Try.func35, Try.ntmps35
 go_wp2
 go_loopg [7] k (fun kq v7 w' => ∃ (x7_1 : Int), v7 = .int .i64 x7_1 ∧ Aside0 (span_Canon.l0 kq l0 l0 (l0.length : Int) x7_1 = some r) ∧ Aside0 (kq ≤ k) ∧ Aside0 (Below w.heap.size w w'))
 case atStart => exact ⟨(0), (by first | rfl | (simp; done) | (simp [*]; done)), H', ⟨Nat.le_refl _⟩, ⟨HB.out⟩⟩
 case round =>
  clear H'
  obtain ⟨x7_1, rfl, HA, HK1, HB⟩ := hrel
  cases gk with
  | zero => exact absurd HA.out (by simp [span_Canon.l0])
  | succ k1 =>
   have H := HA.out
   clear HA
   simp only [span_Canon.l0] at H
   by_cases c2 : x7_1 < (l0.length : Int)
   ·
    rw [if_pos c2] at H
    have c2b0 : decide (x7_1 < (l0.length : Int)) = true := decide_eq_true c2
    clear c2
    by_cases c3 : 0 ≤ x7_1
    ·
     rw [if_pos c3] at H
     have c3b0 : decide (0 ≤ x7_1) = true := decide_eq_true c3
     clear c3
     by_cases c4 : x7_1 < (l0.length : Int)
     ·
      rw [if_pos c4] at H
      have c4b0 : decide (x7_1 < (l0.length : Int)) = true := decide_eq_true c4
      clear c4
      replace H := Option.bind_eq_some_iff.mp H
      obtain ⟨t106, A50, H⟩ := H
      have A5 := Aside0.mk A50
      clear A50
      by_cases c6 : t106 = true
      ·
       subst c6
       have H1 : (if x7_1 > 0 then (if 0 ≤ (wrap64 (x7_1 - 1)) then (if (wrap64 (x7_1 - 1)) < (l0.length : Int) then ((span_ahead.f ((rd_T46 l0 (wrap64 (x7_1 - 1))).f0) ((rd_T46 l0 (wrap64 (x7_1 - 1))).f1) ((rd_T46 l0 (wrap64 (x7_1 - 1))).f2) ((rd_T46 l0 x7_1).f0) ((rd_T46 l0 x7_1).f1) ((rd_T46 l0 x7_1).f2)).bind fun t108 => (if t108 = true then (span_Canon.l0 k1 l0 l0 (l0.length : Int) (wrap64 (x7_1 + 1))) else (some false))) else (none)) else (none)) else (span_Canon.l0 k1 l0 l0 (l0.length : Int) (wrap64 (x7_1 + 1)))) = some r := by rw [if_pos rfl] at H; exact H
       clear H
       have H := H1
       clear H1
       by_cases c7 : x7_1 > 0
       ·
        rw [if_pos c7] at H
        have c7b0 : decide (0 < x7_1) = true := decide_eq_true c7
        clear c7
        obtain ⟨ji8, hji8⟩ : ∃ j_ : Int, (wrap64 (x7_1 - 1)) = j_ := ⟨_, rfl⟩
        replace H : (if 0 ≤ (ji8) then (if (ji8) < (l0.length : Int) then ((span_ahead.f ((rd_T46 l0 (ji8)).f0) ((rd_T46 l0 (ji8)).f1) ((rd_T46 l0 (ji8)).f2) ((rd_T46 l0 x7_1).f0) ((rd_T46 l0 x7_1).f1) ((rd_T46 l0 x7_1).f2)).bind fun t108 => (if t108 = true then (span_Canon.l0 k1 l0 l0 (l0.length : Int) (wrap64 (x7_1 + 1))) else (some false))) else (none)) else (none)) = some r := by first | (rw [hji8] at H; exact H) | (simp only [hji8] at H ⊢; exact H)
        (try rw [hji8] at A5)
        have hji8w : (IntKind.i64.wrap (x7_1 - 1)) = ji8 := (i64_w _).trans hji8
        by_cases c9 : 0 ≤ (ji8)
        ·
         rw [if_pos c9] at H
         have c9b0 : decide (0 ≤ (ji8)) = true := decide_eq_true c9
         clear c9
         by_cases c10 : (ji8) < (l0.length : Int)
         ·
          rw [if_pos c10] at H
          have c10b0 : decide ((ji8) < (l0.length : Int)) = true := decide_eq_true c10
          clear c10
          replace H := Option.bind_eq_some_iff.mp H
          obtain ⟨t108, A110, H⟩ := H
          have A11 := Aside0.mk A110
          clear A110
          by_cases c12 : t108 = true
          ·
           subst c12
           have H1 : (span_Canon.l0 k1 l0 l0 (l0.length : Int) (wrap64 (x7_1 + 1))) = some r := by rw [if_pos rfl] at H; exact H
           clear H
           have H := H1
           clear H1
           have H' := Aside0.mk H
           clear H
           have p104 : 0 ≤ (x7_1 : Int) := of_decide_eq_true (by first | (with_reducible assumption) | assumption)
           have q104 : x7_1 < (l0.length : Int) := of_decide_eq_true (by first | (with_reducible assumption) | assumption)
           obtain ⟨ad104, e104, hx104_0, hx104_1, hx104_2⟩ := at_T46 HR0.out x7_1 p104 q104
           cases e104
           replace hx104_0 := (HB.out.cell (World.block_lt_of_cell? w _ hx104_0)).trans hx104_0
           replace hx104_1 := (HB.out.cell (World.block_lt_of_cell? w _ hx104_1)).trans hx104_1
           replace hx104_2 := (HB.out.cell (World.block_lt_of_cell? w _ hx104_2)).trans hx104_2
           replace p104 := eq_true p104
           replace q104 := eq_true q104
           try go_wp2_with (first | ((with_reducible refine gate_dst (N := 4) rfl ?_); refine box_event ?hg (N := 4) ?hd (cs := #[.int .i64 0, .int .i64 0, .int .i64 0]) (t := 46) ?hr ?_; (case hd => rfl); (case hg => rfl); (case hr => first | (go_simp; done) | (go_simp; rfl)); intro gb105 hg w13 hbox hb; have BK105 := Aside0.mk (hbox); have GW105 := Aside0.mk ((by rw [hg]; exact (below_size (HB.out)) : w.heap.size ≤ gb105)); have GE105 := Aside0.mk ((by rw [hg]; exact (below_size (HB.out)) : w.heap.size ≤ gb105)); replace HB := Aside0.mk (below_step (HB.out) hb); clear hb hbox hg; obtain ⟨hcz14_0, hcz14_1, hcz14_2⟩ := blkc3 BK105.out; obtain ⟨hfz14_0, hfz14_1, hfz14_2⟩ := blkf3 BK105.out))
           have n0_ : Aside0 ((((w13.setCell ⟨gb105, 0, none⟩ (.int .i64 ((rd_T46 l0 x7_1).f0))).setCell ⟨gb105, 1, none⟩ (.int .i64 ((rd_T46 l0 x7_1).f1))).setCell ⟨gb105, 2, none⟩ (.int .i64 ((rd_T46 l0 x7_1).f2))).heap[gb105]? = some (.cells #[.int .i64 ((rd_T46 l0 x7_1).f0), .int .i64 ((rd_T46 l0 x7_1).f1), .int .i64 ((rd_T46 l0 x7_1).f2)] 46 (0, 0))) := ⟨by (with_reducible repeat (first | refine blk_drewN ?_ _ | refine blk_drew ?_ | refine blk_alloc ?_ _)); refine blk_put (cs := #[.int .i64 ((rd_T46 l0 x7_1).f0), .int .i64 ((rd_T46 l0 x7_1).f1), .int .i64 0]) ?_ 2 _ rfl; (with_reducible repeat (first | refine blk_drewN ?_ _ | refine blk_drew ?_ | refine blk_alloc ?_ _)); refine blk_put (cs := #[.int .i64 ((rd_T46 l0 x7_1).f0), .int .i64 0, .int .i64 0]) ?_ 1 _ rfl; (with_reducible repeat (first | refine blk_drewN ?_ _ | refine blk_drew ?_ | refine blk_alloc ?_ _)); refine blk_put (cs := #[.int .i64 0, .int .i64 0, .int .i64 0]) ?_ 0 _ rfl; (with_reducible repeat (first | refine blk_drewN ?_ _ | refine blk_drew ?_ | refine blk_alloc ?_ _)); exact BK105.out⟩
           have n1_ : Aside0 (Below w.heap.size w (((w13.setCell ⟨gb105, 0, none⟩ (.int .i64 ((rd_T46 l0 x7_1).f0))).setCell ⟨gb105, 1, none⟩ (.int .i64 ((rd_T46 l0 x7_1).f1))).setCell ⟨gb105, 2, none⟩ (.int .i64 ((rd_T46 l0 x7_1).f2)))) := ⟨by repeat (first | (with_reducible first | exact HB.out | apply below_alloc | apply pw_below_drewN | apply below_drew1 | refine below_set ?_ GE105.out) | exact HB.out)⟩
           (try clear BK105)
           (try clear HB)
           first | (rw [drewN_self (((w13.setCell ⟨gb105, 0, none⟩ (.int .i64 ((rd_T46 l0 x7_1).f0))).setCell ⟨gb105, 1, none⟩ (.int .i64 ((rd_T46 l0 x7_1).f1))).setCell ⟨gb105, 2, none⟩ (.int .i64 ((rd_T46 l0 x7_1).f2)))]; generalize hq_ : World.drewN (((w13.setCell ⟨gb105, 0, none⟩ (.int .i64 ((rd_T46 l0 x7_1).f0))).setCell ⟨gb105, 1, none⟩ (.int .i64 ((rd_T46 l0 x7_1).f1))).setCell ⟨gb105, 2, none⟩ (.int .i64 ((rd_T46 l0 x7_1).f2))) _ = w15; have m0_ : Aside0 (w15.heap[gb105]? = some (.cells #[.int .i64 ((rd_T46 l0 x7_1).f0), .int .i64 ((rd_T46 l0 x7_1).f1), .int .i64 ((rd_T46 l0 x7_1).f2)] 46 (0, 0))) := ⟨by rw [← hq_]; first | exact Kd.R_drewN n0_.out _ | exact Kd.Q_drewN n0_.out _ | exact blk_drewN n0_.out _ | exact pw_below_drewN n0_.out _ | exact Kd.S_drewN n0_.out _ | exact n0_.out⟩; have m1_ : Aside0 (Below w.heap.size w w15) := ⟨by rw [← hq_]; first | exact Kd.R_drewN n1_.out _ | exact Kd.Q_drewN n1_.out _ | exact blk_drewN n1_.out _ | exact pw_below_drewN n1_.out _ | exact Kd.S_drewN n1_.out _ | exact n1_.out⟩; clear hq_ n0_ n1_; have n0_ := m0_; have n1_ := m1_; clear m0_ m1_) | (generalize (((w13.setCell ⟨gb105, 0, none⟩ (.int .i64 ((rd_T46 l0 x7_1).f0))).setCell ⟨gb105, 1, none⟩ (.int .i64 ((rd_T46 l0 x7_1).f1))).setCell ⟨gb105, 2, none⟩ (.int .i64 ((rd_T46 l0 x7_1).f2))) = w15 at n0_ n1_ ⊢)
           have BK105 := n0_
           have HB := n1_
           clear n0_ n1_
           have n0_ := Aside0.mk (blk_drew BK105.out)
           have n1_ := Aside0.mk (below_drew1 HB.out)
           clear BK105
           clear HB
           have BK105 := n0_
           have HB := n1_
           clear n0_ n1_
           have p107 : 0 ≤ ((ji8) : Int) := of_decide_eq_true (by first | (with_reducible assumption) | assumption)
           have q107 : (ji8) < (l0.length : Int) := of_decide_eq_true (by first | (with_reducible assumption) | assumption)
           obtain ⟨ad107, e107, hx107_0, hx107_1, hx107_2⟩ := at_T46 HR0.out (ji8) p107 q107
           have hw107_2 := hx107_2
           have hw107_1 := hx107_1
           have hw107_0 := hx107_0
           obtain rfl : ad104 = ad107 := (by injection e107)
           replace hx107_0 := (HB.out.cell (World.block_lt_of_cell? w _ hx107_0)).trans hx107_0
           replace hx107_1 := (HB.out.cell (World.block_lt_of_cell? w _ hx107_1)).trans hx107_1
           replace hx107_2 := (HB.out.cell (World.block_lt_of_cell? w _ hx107_2)).trans hx107_2
           replace p107 := eq_true p107
           replace q107 := eq_true q107
           refine start_ (n := 17) (S := fun w' => w'.cell? ⟨gb105, 0, none⟩ = some (.int .i64 ((rd_T46 l0 x7_1).f0)) ∧ w'.cell? ⟨gb105, 1, none⟩ = some (.int .i64 ((rd_T46 l0 x7_1).f1)) ∧ w'.cell? ⟨gb105, 2, none⟩ = some (.int .i64 ((rd_T46 l0 x7_1).f2)) ∧ w'.cell? (ad104.add (((ji8)).toNat * 3)) = some (.int .i64 ((rd_T46 l0 (ji8)).f0)) ∧ w'.cell? ⟨(ad104.add (((ji8)).toNat * 3)).block, (ad104.add (((ji8)).toNat * 3)).off + 1, none⟩ = some (.int .i64 ((rd_T46 l0 (ji8)).f1)) ∧ w'.cell? ⟨(ad104.add (((ji8)).toNat * 3)).block, (ad104.add (((ji8)).toNat * 3)).off + 2, none⟩ = some (.int .i64 ((rd_T46 l0 (ji8)).f2))) (ds := []) #[false,false,false,false,false,false,false,false,false,false,false,false,false,false,false,false,false] (by kernel_rfl) rfl rfl ⟨(blk_cell BK105.out 0).trans rfl, (blk_cell BK105.out 1).trans rfl, (blk_cell BK105.out 2).trans rfl, ((HB.out.cell (World.block_lt_of_cell? w _ hw107_0)).trans hw107_0), ((HB.out.cell (World.block_lt_of_cell? w _ hw107_1)).trans hw107_1), ((HB.out.cell (World.block_lt_of_cell? w _ hw107_2)).trans hw107_2)⟩ (fun hHeld => ?_); refine with_tabW span_Canon.tab4 span_Canon.bits4 (fun HT_ HW_ => ?_)
           generalize w15.drew = w16 at BK105 HB hx107_0 hx107_1 hx107_2 hHeld ⊢
           refine take_ (i := 0) (N := some 12) (v := ?_) (a' := ?_) #[true,false,false,false,false,false,false,false,false,false,false,false,false,false,false,false,false] rfl rfl (take_ofW HT_.out HW_.out (by kernel_rfl)) (fun _ _ _ h => h) (Or.inl ⟨by rfl, ?_⟩) hHeld ?_ ?_
           rotate_left
           ·
            rintro w' ⟨s0, s1, s2, s3, s4, s5⟩
            go_simp
            with_reducible rfl
           rotate_left
           ·
            simp only [Act.put, List.setIfInBounds_toArray, List.set_cons_zero, List.set_cons_succ, i64_w, i32_w]
            rfl
           refine one_ (i := 1) (N := some 13) #[true,true,false,false,false,false,false,false,false,false,false,false,false,false,false,false,false] rfl rfl (one_of HT_.out (by kernel_rfl)) (by decide) (fun K hK => ?_)
           refine goes_ Try.func48 (by kernel_rfl) rfl #[.agg #[.int .i64 ((rd_T46 l0 x7_1).f0), .int .i64 ((rd_T46 l0 x7_1).f1), .int .i64 ((rd_T46 l0 x7_1).f2)]] (by rfl) rfl rfl (by (try simp only [List.map_toArray, List.map_cons, List.map_nil]); first | done | rfl | (simp only [List.length_drop, List.length_take]; rfl)) ?_
           with_reducible refine (span_Right.calls ((rd_T46 l0 x7_1).f0) ((rd_T46 l0 x7_1).f1) ((rd_T46 l0 x7_1).f2) true _ A5.out).mono ?_
           rintro e w17 ⟨rfl, hb⟩
           refine ⟨_, rfl, ?_⟩
           have n0_ := Aside0.mk (blk_below BK105.out hb)
           have n1_ := Aside0.mk (below_step (HB.out) hb)
           clear BK105
           clear HB
           have BK105 := n0_
           have HB := n1_
           clear n0_ n1_
           (try clear hb)
           (try clear hb2)
           (try clear hk)
           (try clear hi)
           refine hK.out _ _ ⟨(blk_cell BK105.out 0).trans rfl, (blk_cell BK105.out 1).trans rfl, (blk_cell BK105.out 2).trans rfl, ((HB.out.cell (World.block_lt_of_cell? w _ hw107_0)).trans hw107_0), ((HB.out.cell (World.block_lt_of_cell? w _ hw107_1)).trans hw107_1), ((HB.out.cell (World.block_lt_of_cell? w _ hw107_2)).trans hw107_2)⟩ (fun hHeld => ?_)
           clear hK K
           refine norm_ (a' := ?_) ?_ ?_
           rotate_left
           ·
            show Act.put _ (some 13) _ = _
            simp only [Act.put, List.setIfInBounds_toArray, List.set_cons_zero, List.set_cons_succ, i64_w, i32_w]
            rfl
           refine pure_ (i := 2) (N := some 14) (v := ?_) (a' := ?_) #[true,true,true,false,false,false,false,false,false,false,false,false,false,false,false,false,false] rfl rfl (any_of HT_.out (by kernel_rfl)) (fun _ _ _ h => h) (Or.inl ⟨by rfl, ?_⟩) ?_ ?_
           rotate_left
           ·
            intro w'
            go_simp
            with_reducible rfl
           rotate_left
           ·
            simp only [Act.put, List.setIfInBounds_toArray, List.set_cons_zero, List.set_cons_succ, i64_w, i32_w]
            rfl
           refine pure_ (i := 3) (N := some 15) (v := ?_) (a' := ?_) #[true,true,true,true,false,false,false,false,false,false,false,false,false,false,false,false,false] rfl rfl (any_of HT_.out (by kernel_rfl)) (fun _ _ _ h => h) (Or.inl ⟨by rfl, ?_⟩) ?_ ?_
           rotate_left
           ·
            intro w'
            go_simp
            with_reducible rfl
           rotate_left
           ·
            simp only [Act.put, List.setIfInBounds_toArray, List.set_cons_zero, List.set_cons_succ, i64_w, i32_w]
            rfl
           refine pure_ (i := 4) (N := some 16) (v := ?_) (a' := ?_) #[true,true,true,true,true,false,false,false,false,false,false,false,false,false,false,false,false] rfl rfl (any_of HT_.out (by kernel_rfl)) (fun _ _ _ h => h) (Or.inl ⟨by rfl, ?_⟩) ?_ ?_
           rotate_left
           ·
            intro w'
            go_simp
            with_reducible rfl
           rotate_left
           ·
            simp only [Act.put, List.setIfInBounds_toArray, List.set_cons_zero, List.set_cons_succ, i64_w, i32_w]
            rfl
           refine pure_ (i := 5) (N := some 17) (v := ?_) (a' := ?_) #[true,true,true,true,true,true,false,false,false,false,false,false,false,false,false,false,false] rfl rfl (any_of HT_.out (by kernel_rfl)) (fun _ _ _ h => h) (Or.inl ⟨by rfl, ?_⟩) ?_ ?_
           rotate_left
           ·
            intro w'
            go_simp
            with_reducible rfl
           rotate_left
           ·
            simp only [Act.put, List.setIfInBounds_toArray, List.set_cons_zero, List.set_cons_succ, i64_w, i32_w]
            rfl
           refine pure_ (i := 6) (N := some 18) (v := ?_) (a' := ?_) #[true,true,true,true,true,true,true,false,false,false,false,false,false,false,false,false,false] rfl rfl (any_of HT_.out (by kernel_rfl)) (fun _ _ _ h => h) (Or.inl ⟨by rfl, ?_⟩) ?_ ?_
           rotate_left
           ·
            intro w'
            go_simp
            with_reducible rfl
           rotate_left
           ·
            simp only [Act.put, List.setIfInBounds_toArray, List.set_cons_zero, List.set_cons_succ, i64_w, i32_w]
            rfl
           refine pure_ (i := 7) (N := some 19) (v := ?_) (a' := ?_) #[true,true,true,true,true,true,true,true,false,false,false,false,false,false,false,false,false] rfl rfl (any_of HT_.out (by kernel_rfl)) (fun _ _ _ h => h) (Or.inl ⟨by rfl, ?_⟩) ?_ ?_
           rotate_left
           ·
            intro w'
            go_simp
            with_reducible rfl
           rotate_left
           ·
            simp only [Act.put, List.setIfInBounds_toArray, List.set_cons_zero, List.set_cons_succ, i64_w, i32_w]
            rfl
           refine pure_ (i := 8) (N := some 20) (v := ?_) (a' := ?_) #[true,true,true,true,true,true,true,true,true,false,false,false,false,false,false,false,false] rfl rfl (any_of HT_.out (by kernel_rfl)) (fun _ _ _ h => h) (Or.inl ⟨by rfl, ?_⟩) ?_ ?_
           rotate_left
           ·
            intro w'
            go_simp
            with_reducible rfl
           rotate_left
           ·
            simp only [Act.put, List.setIfInBounds_toArray, List.set_cons_zero, List.set_cons_succ, i64_w, i32_w]
            rfl
           refine pure_ (i := 9) (N := some 21) (v := ?_) (a' := ?_) #[true,true,true,true,true,true,true,true,true,true,false,false,false,false,false,false,false] rfl rfl (any_of HT_.out (by kernel_rfl)) (fun _ _ _ h => h) (Or.inl ⟨by rfl, ?_⟩) ?_ ?_
           rotate_left
           ·
            intro w'
            go_simp
            with_reducible rfl
           rotate_left
           ·
            simp only [Act.put, List.setIfInBounds_toArray, List.set_cons_zero, List.set_cons_succ, i64_w, i32_w]
            rfl
           refine pure_ (i := 10) (N := some 22) (v := ?_) (a' := ?_) #[true,true,true,true,true,true,true,true,true,true,true,false,false,false,false,false,false] rfl rfl (any_of HT_.out (by kernel_rfl)) (fun _ _ _ h => h) (Or.inl ⟨by rfl, ?_⟩) ?_ ?_
           rotate_left
           ·
            intro w'
            go_simp
            with_reducible rfl
           rotate_left
           ·
            simp only [Act.put, List.setIfInBounds_toArray, List.set_cons_zero, List.set_cons_succ, i64_w, i32_w]
            rfl
           refine take_ (i := 11) (N := some 23) (v := ?_) (a' := ?_) #[true,true,true,true,true,true,true,true,true,true,true,true,false,false,false,false,false] rfl rfl (take_ofW HT_.out HW_.out (by kernel_rfl)) (fun _ _ _ h => h) (Or.inl ⟨by rfl, ?_⟩) hHeld ?_ ?_
           rotate_left
           ·
            rintro w' ⟨s0, s1, s2, s3, s4, s5⟩
            go_simp
            with_reducible rfl
           rotate_left
           ·
            simp only [Act.put, List.setIfInBounds_toArray, List.set_cons_zero, List.set_cons_succ, i64_w, i32_w]
            rfl
           refine take_ (i := 12) (N := some 24) (v := ?_) (a' := ?_) #[true,true,true,true,true,true,true,true,true,true,true,true,true,false,false,false,false] rfl rfl (take_ofW HT_.out HW_.out (by kernel_rfl)) (fun _ _ _ h => h) (Or.inl ⟨by rfl, ?_⟩) hHeld ?_ ?_
           rotate_left
           ·
            rintro w' ⟨s0, s1, s2, s3, s4, s5⟩
            go_simp
            with_reducible rfl
           rotate_left
           ·
            simp only [Act.put, List.setIfInBounds_toArray, List.set_cons_zero, List.set_cons_succ, i64_w, i32_w]
            rfl
           refine one_ (i := 13) (N := some 25) #[true,true,true,true,true,true,true,true,true,true,true,true,true,true,false,false,false] rfl rfl (one_of HT_.out (by kernel_rfl)) (by decide) (fun K hK => ?_)
           refine goes_ Try.func49 (by kernel_rfl) rfl #[.agg #[.int .i64 ((rd_T46 l0 (ji8)).f0), .int .i64 ((rd_T46 l0 (ji8)).f1), .int .i64 ((rd_T46 l0 (ji8)).f2)], .agg #[.int .i64 ((rd_T46 l0 x7_1).f0), .int .i64 ((rd_T46 l0 x7_1).f1), .int .i64 ((rd_T46 l0 x7_1).f2)]] (by rfl) rfl rfl (by (try simp only [List.map_toArray, List.map_cons, List.map_nil]); first | done | (simp only [hji8]; rfl) | rfl | (simp only [List.length_drop, List.length_take]; rfl)) ?_
           with_reducible refine (span_ahead.calls ((rd_T46 l0 (ji8)).f0) ((rd_T46 l0 (ji8)).f1) ((rd_T46 l0 (ji8)).f2) ((rd_T46 l0 x7_1).f0) ((rd_T46 l0 x7_1).f1) ((rd_T46 l0 x7_1).f2) true _ A11.out).mono ?_
           rintro e w18 ⟨rfl, hb⟩
           refine ⟨_, rfl, ?_⟩
           have n0_ := Aside0.mk (blk_below BK105.out hb)
           have n1_ := Aside0.mk (below_step (HB.out) hb)
           clear BK105
           clear HB
           have BK105 := n0_
           have HB := n1_
           clear n0_ n1_
           (try clear hb)
           (try clear hb2)
           (try clear hk)
           (try clear hi)
           refine hK.out _ _ ⟨(blk_cell BK105.out 0).trans rfl, (blk_cell BK105.out 1).trans rfl, (blk_cell BK105.out 2).trans rfl, ((HB.out.cell (World.block_lt_of_cell? w _ hw107_0)).trans hw107_0), ((HB.out.cell (World.block_lt_of_cell? w _ hw107_1)).trans hw107_1), ((HB.out.cell (World.block_lt_of_cell? w _ hw107_2)).trans hw107_2)⟩ (fun hHeld => ?_)
           clear hK K
           refine norm_ (a' := ?_) ?_ ?_
           rotate_left
           ·
            show Act.put _ (some 25) _ = _
            simp only [Act.put, List.setIfInBounds_toArray, List.set_cons_zero, List.set_cons_succ, i64_w, i32_w]
            rfl
           refine pure_ (i := 14) (N := some 26) (v := ?_) (a' := ?_) #[true,true,true,true,true,true,true,true,true,true,true,true,true,true,true,false,false] rfl rfl (any_of HT_.out (by kernel_rfl)) (fun _ _ _ h => h) (Or.inl ⟨by rfl, ?_⟩) ?_ ?_
           rotate_left
           ·
            intro w'
            go_simp
            with_reducible rfl
           rotate_left
           ·
            simp only [Act.put, List.setIfInBounds_toArray, List.set_cons_zero, List.set_cons_succ, i64_w, i32_w]
            rfl
           refine pure_ (i := 15) (N := some 27) (v := ?_) (a' := ?_) #[true,true,true,true,true,true,true,true,true,true,true,true,true,true,true,true,false] rfl rfl (any_of HT_.out (by kernel_rfl)) (fun _ _ _ h => h) (Or.inl ⟨by rfl, ?_⟩) ?_ ?_
           rotate_left
           ·
            intro w'
            go_simp
            with_reducible rfl
           rotate_left
           ·
            simp only [Act.put, List.setIfInBounds_toArray, List.set_cons_zero, List.set_cons_succ, i64_w, i32_w]
            rfl
           refine pure_ (i := 16) (N := some 28) (v := ?_) (a' := ?_) #[true,true,true,true,true,true,true,true,true,true,true,true,true,true,true,true,true] rfl rfl (any_of HT_.out (by kernel_rfl)) (fun _ _ _ h => h) (Or.inl ⟨by rfl, ?_⟩) ?_ ?_
           rotate_left
           ·
            intro w'
            go_simp
            with_reducible rfl
           rotate_left
           ·
            simp only [Act.put, List.setIfInBounds_toArray, List.set_cons_zero, List.set_cons_succ, i64_w, i32_w]
            rfl
           refine done_ (done_of HT_.out (by kernel_rfl)) ?_
           try go_wp2
           go_roundg k1
           case measure => have := HK1.out; omega
           case rel => exact ⟨(wrap64 (x7_1 + 1)), (by first | rfl | (simp; done) | (simp [*]; done)), H', ⟨by have := HK1.out; omega⟩, ⟨HB.out⟩⟩
          ·
           replace c12 := Bool.eq_false_iff.mpr c12
           subst c12
           have H1 : (some false) = some r := by rw [if_neg (show ¬ (false = true) by decide)] at H; exact H
           clear H
           have H := H1
           clear H1
           obtain rfl := Option.some.inj H
           have p104 : 0 ≤ (x7_1 : Int) := of_decide_eq_true (by first | (with_reducible assumption) | assumption)
           have q104 : x7_1 < (l0.length : Int) := of_decide_eq_true (by first | (with_reducible assumption) | assumption)
           obtain ⟨ad104, e104, hx104_0, hx104_1, hx104_2⟩ := at_T46 HR0.out x7_1 p104 q104
           cases e104
           replace hx104_0 := (HB.out.cell (World.block_lt_of_cell? w _ hx104_0)).trans hx104_0
           replace hx104_1 := (HB.out.cell (World.block_lt_of_cell? w _ hx104_1)).trans hx104_1
           replace hx104_2 := (HB.out.cell (World.block_lt_of_cell? w _ hx104_2)).trans hx104_2
           replace p104 := eq_true p104
           replace q104 := eq_true q104
           try go_wp2_with (first | ((with_reducible refine gate_dst (N := 4) rfl ?_); refine box_event ?hg (N := 4) ?hd (cs := #[.int .i64 0, .int .i64 0, .int .i64 0]) (t := 46) ?hr ?_; (case hd => rfl); (case hg => rfl); (case hr => first | (go_simp; done) | (go_simp; rfl)); intro gb105 hg w19 hbox hb; have BK105 := Aside0.mk (hbox); have GW105 := Aside0.mk ((by rw [hg]; exact (below_size (HB.out)) : w.heap.size ≤ gb105)); have GE105 := Aside0.mk ((by rw [hg]; exact (below_size (HB.out)) : w.heap.size ≤ gb105)); replace HB := Aside0.mk (below_step (HB.out) hb); clear hb hbox hg; obtain ⟨hcz20_0, hcz20_1, hcz20_2⟩ := blkc3 BK105.out; obtain ⟨hfz20_0, hfz20_1, hfz20_2⟩ := blkf3 BK105.out))
           have n0_ : Aside0 ((((w19.setCell ⟨gb105, 0, none⟩ (.int .i64 ((rd_T46 l0 x7_1).f0))).setCell ⟨gb105, 1, none⟩ (.int .i64 ((rd_T46 l0 x7_1).f1))).setCell ⟨gb105, 2, none⟩ (.int .i64 ((rd_T46 l0 x7_1).f2))).heap[gb105]? = some (.cells #[.int .i64 ((rd_T46 l0 x7_1).f0), .int .i64 ((rd_T46 l0 x7_1).f1), .int .i64 ((rd_T46 l0 x7_1).f2)] 46 (0, 0))) := ⟨by (with_reducible repeat (first | refine blk_drewN ?_ _ | refine blk_drew ?_ | refine blk_alloc ?_ _)); refine blk_put (cs := #[.int .i64 ((rd_T46 l0 x7_1).f0), .int .i64 ((rd_T46 l0 x7_1).f1), .int .i64 0]) ?_ 2 _ rfl; (with_reducible repeat (first | refine blk_drewN ?_ _ | refine blk_drew ?_ | refine blk_alloc ?_ _)); refine blk_put (cs := #[.int .i64 ((rd_T46 l0 x7_1).f0), .int .i64 0, .int .i64 0]) ?_ 1 _ rfl; (with_reducible repeat (first | refine blk_drewN ?_ _ | refine blk_drew ?_ | refine blk_alloc ?_ _)); refine blk_put (cs := #[.int .i64 0, .int .i64 0, .int .i64 0]) ?_ 0 _ rfl; (with_reducible repeat (first | refine blk_drewN ?_ _ | refine blk_drew ?_ | refine blk_alloc ?_ _)); exact BK105.out⟩
           have n1_ : Aside0 (Below w.heap.size w (((w19.setCell ⟨gb105, 0, none⟩ (.int .i64 ((rd_T46 l0 x7_1).f0))).setCell ⟨gb105, 1, none⟩ (.int .i64 ((rd_T46 l0 x7_1).f1))).setCell ⟨gb105, 2, none⟩ (.int .i64 ((rd_T46 l0 x7_1).f2)))) := ⟨by repeat (first | (with_reducible first | exact HB.out | apply below_alloc | apply pw_below_drewN | apply below_drew1 | refine below_set ?_ GE105.out) | exact HB.out)⟩
           (try clear BK105)
           (try clear HB)
           first | (rw [drewN_self (((w19.setCell ⟨gb105, 0, none⟩ (.int .i64 ((rd_T46 l0 x7_1).f0))).setCell ⟨gb105, 1, none⟩ (.int .i64 ((rd_T46 l0 x7_1).f1))).setCell ⟨gb105, 2, none⟩ (.int .i64 ((rd_T46 l0 x7_1).f2)))]; generalize hq_ : World.drewN (((w19.setCell ⟨gb105, 0, none⟩ (.int .i64 ((rd_T46 l0 x7_1).f0))).setCell ⟨gb105, 1, none⟩ (.int .i64 ((rd_T46 l0 x7_1).f1))).setCell ⟨gb105, 2, none⟩ (.int .i64 ((rd_T46 l0 x7_1).f2))) _ = w21; have m0_ : Aside0 (w21.heap[gb105]? = some (.cells #[.int .i64 ((rd_T46 l0 x7_1).f0), .int .i64 ((rd_T46 l0 x7_1).f1), .int .i64 ((rd_T46 l0 x7_1).f2)] 46 (0, 0))) := ⟨by rw [← hq_]; first | exact Kd.R_drewN n0_.out _ | exact Kd.Q_drewN n0_.out _ | exact blk_drewN n0_.out _ | exact pw_below_drewN n0_.out _ | exact Kd.S_drewN n0_.out _ | exact n0_.out⟩; have m1_ : Aside0 (Below w.heap.size w w21) := ⟨by rw [← hq_]; first | exact Kd.R_drewN n1_.out _ | exact Kd.Q_drewN n1_.out _ | exact blk_drewN n1_.out _ | exact pw_below_drewN n1_.out _ | exact Kd.S_drewN n1_.out _ | exact n1_.out⟩; clear hq_ n0_ n1_; have n0_ := m0_; have n1_ := m1_; clear m0_ m1_) | (generalize (((w19.setCell ⟨gb105, 0, none⟩ (.int .i64 ((rd_T46 l0 x7_1).f0))).setCell ⟨gb105, 1, none⟩ (.int .i64 ((rd_T46 l0 x7_1).f1))).setCell ⟨gb105, 2, none⟩ (.int .i64 ((rd_T46 l0 x7_1).f2))) = w21 at n0_ n1_ ⊢)
           have BK105 := n0_
           have HB := n1_
           clear n0_ n1_
           have n0_ := Aside0.mk (blk_drew BK105.out)
           have n1_ := Aside0.mk (below_drew1 HB.out)
           clear BK105
           clear HB
           have BK105 := n0_
           have HB := n1_
           clear n0_ n1_
           have p107 : 0 ≤ ((ji8) : Int) := of_decide_eq_true (by first | (with_reducible assumption) | assumption)
           have q107 : (ji8) < (l0.length : Int) := of_decide_eq_true (by first | (with_reducible assumption) | assumption)
           obtain ⟨ad107, e107, hx107_0, hx107_1, hx107_2⟩ := at_T46 HR0.out (ji8) p107 q107
           have hw107_2 := hx107_2
           have hw107_1 := hx107_1
           have hw107_0 := hx107_0
           obtain rfl : ad104 = ad107 := (by injection e107)
           replace hx107_0 := (HB.out.cell (World.block_lt_of_cell? w _ hx107_0)).trans hx107_0
           replace hx107_1 := (HB.out.cell (World.block_lt_of_cell? w _ hx107_1)).trans hx107_1
           replace hx107_2 := (HB.out.cell (World.block_lt_of_cell? w _ hx107_2)).trans hx107_2
           replace p107 := eq_true p107
           replace q107 := eq_true q107
           refine start_ (n := 17) (S := fun w' => w'.cell? ⟨gb105, 0, none⟩ = some (.int .i64 ((rd_T46 l0 x7_1).f0)) ∧ w'.cell? ⟨gb105, 1, none⟩ = some (.int .i64 ((rd_T46 l0 x7_1).f1)) ∧ w'.cell? ⟨gb105, 2, none⟩ = some (.int .i64 ((rd_T46 l0 x7_1).f2)) ∧ w'.cell? (ad104.add (((ji8)).toNat * 3)) = some (.int .i64 ((rd_T46 l0 (ji8)).f0)) ∧ w'.cell? ⟨(ad104.add (((ji8)).toNat * 3)).block, (ad104.add (((ji8)).toNat * 3)).off + 1, none⟩ = some (.int .i64 ((rd_T46 l0 (ji8)).f1)) ∧ w'.cell? ⟨(ad104.add (((ji8)).toNat * 3)).block, (ad104.add (((ji8)).toNat * 3)).off + 2, none⟩ = some (.int .i64 ((rd_T46 l0 (ji8)).f2))) (ds := []) #[false,false,false,false,false,false,false,false,false,false,false,false,false,false,false,false,false] (by kernel_rfl) rfl rfl ⟨(blk_cell BK105.out 0).trans rfl, (blk_cell BK105.out 1).trans rfl, (blk_cell BK105.out 2).trans rfl, ((HB.out.cell (World.block_lt_of_cell? w _ hw107_0)).trans hw107_0), ((HB.out.cell (World.block_lt_of_cell? w _ hw107_1)).trans hw107_1), ((HB.out.cell (World.block_lt_of_cell? w _ hw107_2)).trans hw107_2)⟩ (fun hHeld => ?_); refine with_tabW span_Canon.tab4 span_Canon.bits4 (fun HT_ HW_ => ?_)
           generalize w21.drew = w22 at BK105 HB hx107_0 hx107_1 hx107_2 hHeld ⊢
           refine take_ (i := 0) (N := some 12) (v := ?_) (a' := ?_) #[true,false,false,false,false,false,false,false,false,false,false,false,false,false,false,false,false] rfl rfl (take_ofW HT_.out HW_.out (by kernel_rfl)) (fun _ _ _ h => h) (Or.inl ⟨by rfl, ?_⟩) hHeld ?_ ?_
           rotate_left
           ·
            rintro w' ⟨s0, s1, s2, s3, s4, s5⟩
            go_simp
            with_reducible rfl
           rotate_left
           ·
            simp only [Act.put, List.setIfInBounds_toArray, List.set_cons_zero, List.set_cons_succ, i64_w, i32_w]
            rfl
           refine one_ (i := 1) (N := some 13) #[true,true,false,false,false,false,false,false,false,false,false,false,false,false,false,false,false] rfl rfl (one_of HT_.out (by kernel_rfl)) (by decide) (fun K hK => ?_)
           refine goes_ Try.func48 (by kernel_rfl) rfl #[.agg #[.int .i64 ((rd_T46 l0 x7_1).f0), .int .i64 ((rd_T46 l0 x7_1).f1), .int .i64 ((rd_T46 l0 x7_1).f2)]] (by rfl) rfl rfl (by (try simp only [List.map_toArray, List.map_cons, List.map_nil]); first | done | rfl | (simp only [List.length_drop, List.length_take]; rfl)) ?_
           with_reducible refine (span_Right.calls ((rd_T46 l0 x7_1).f0) ((rd_T46 l0 x7_1).f1) ((rd_T46 l0 x7_1).f2) true _ A5.out).mono ?_
           rintro e w23 ⟨rfl, hb⟩
           refine ⟨_, rfl, ?_⟩
           have n0_ := Aside0.mk (blk_below BK105.out hb)
           have n1_ := Aside0.mk (below_step (HB.out) hb)
           clear BK105
           clear HB
           have BK105 := n0_
           have HB := n1_
           clear n0_ n1_
           (try clear hb)
           (try clear hb2)
           (try clear hk)
           (try clear hi)
           refine hK.out _ _ ⟨(blk_cell BK105.out 0).trans rfl, (blk_cell BK105.out 1).trans rfl, (blk_cell BK105.out 2).trans rfl, ((HB.out.cell (World.block_lt_of_cell? w _ hw107_0)).trans hw107_0), ((HB.out.cell (World.block_lt_of_cell? w _ hw107_1)).trans hw107_1), ((HB.out.cell (World.block_lt_of_cell? w _ hw107_2)).trans hw107_2)⟩ (fun hHeld => ?_)
           clear hK K
           refine norm_ (a' := ?_) ?_ ?_
           rotate_left
           ·
            show Act.put _ (some 13) _ = _
            simp only [Act.put, List.setIfInBounds_toArray, List.set_cons_zero, List.set_cons_succ, i64_w, i32_w]
            rfl
           refine pure_ (i := 2) (N := some 14) (v := ?_) (a' := ?_) #[true,true,true,false,false,false,false,false,false,false,false,false,false,false,false,false,false] rfl rfl (any_of HT_.out (by kernel_rfl)) (fun _ _ _ h => h) (Or.inl ⟨by rfl, ?_⟩) ?_ ?_
           rotate_left
           ·
            intro w'
            go_simp
            with_reducible rfl
           rotate_left
           ·
            simp only [Act.put, List.setIfInBounds_toArray, List.set_cons_zero, List.set_cons_succ, i64_w, i32_w]
            rfl
           refine pure_ (i := 3) (N := some 15) (v := ?_) (a' := ?_) #[true,true,true,true,false,false,false,false,false,false,false,false,false,false,false,false,false] rfl rfl (any_of HT_.out (by kernel_rfl)) (fun _ _ _ h => h) (Or.inl ⟨by rfl, ?_⟩) ?_ ?_
           rotate_left
           ·
            intro w'
            go_simp
            with_reducible rfl
           rotate_left
           ·
            simp only [Act.put, List.setIfInBounds_toArray, List.set_cons_zero, List.set_cons_succ, i64_w, i32_w]
            rfl
           refine pure_ (i := 4) (N := some 16) (v := ?_) (a' := ?_) #[true,true,true,true,true,false,false,false,false,false,false,false,false,false,false,false,false] rfl rfl (any_of HT_.out (by kernel_rfl)) (fun _ _ _ h => h) (Or.inl ⟨by rfl, ?_⟩) ?_ ?_
           rotate_left
           ·
            intro w'
            go_simp
            with_reducible rfl
           rotate_left
           ·
            simp only [Act.put, List.setIfInBounds_toArray, List.set_cons_zero, List.set_cons_succ, i64_w, i32_w]
            rfl
           refine pure_ (i := 5) (N := some 17) (v := ?_) (a' := ?_) #[true,true,true,true,true,true,false,false,false,false,false,false,false,false,false,false,false] rfl rfl (any_of HT_.out (by kernel_rfl)) (fun _ _ _ h => h) (Or.inl ⟨by rfl, ?_⟩) ?_ ?_
           rotate_left
           ·
            intro w'
            go_simp
            with_reducible rfl
           rotate_left
           ·
            simp only [Act.put, List.setIfInBounds_toArray, List.set_cons_zero, List.set_cons_succ, i64_w, i32_w]
            rfl
           refine pure_ (i := 6) (N := some 18) (v := ?_) (a' := ?_) #[true,true,true,true,true,true,true,false,false,false,false,false,false,false,false,false,false] rfl rfl (any_of HT_.out (by kernel_rfl)) (fun _ _ _ h => h) (Or.inl ⟨by rfl, ?_⟩) ?_ ?_
           rotate_left
           ·
            intro w'
            go_simp
            with_reducible rfl
           rotate_left
           ·
            simp only [Act.put, List.setIfInBounds_toArray, List.set_cons_zero, List.set_cons_succ, i64_w, i32_w]
            rfl
           refine pure_ (i := 7) (N := some 19) (v := ?_) (a' := ?_) #[true,true,true,true,true,true,true,true,false,false,false,false,false,false,false,false,false] rfl rfl (any_of HT_.out (by kernel_rfl)) (fun _ _ _ h => h) (Or.inl ⟨by rfl, ?_⟩) ?_ ?_
           rotate_left
           ·
            intro w'
            go_simp
            with_reducible rfl
           rotate_left
           ·
            simp only [Act.put, List.setIfInBounds_toArray, List.set_cons_zero, List.set_cons_succ, i64_w, i32_w]
            rfl
           refine pure_ (i := 8) (N := some 20) (v := ?_) (a' := ?_) #[true,true,true,true,true,true,true,true,true,false,false,false,false,false,false,false,false] rfl rfl (any_of HT_.out (by kernel_rfl)) (fun _ _ _ h => h) (Or.inl ⟨by rfl, ?_⟩) ?_ ?_
           rotate_left
           ·
            intro w'
            go_simp
            with_reducible rfl
           rotate_left
           ·
            simp only [Act.put, List.setIfInBounds_toArray, List.set_cons_zero, List.set_cons_succ, i64_w, i32_w]
            rfl
           refine pure_ (i := 9) (N := some 21) (v := ?_) (a' := ?_) #[true,true,true,true,true,true,true,true,true,true,false,false,false,false,false,false,false] rfl rfl (any_of HT_.out (by kernel_rfl)) (fun _ _ _ h => h) (Or.inl ⟨by rfl, ?_⟩) ?_ ?_
           rotate_left
           ·
            intro w'
            go_simp
            with_reducible rfl
           rotate_left
           ·
            simp only [Act.put, List.setIfInBounds_toArray, List.set_cons_zero, List.set_cons_succ, i64_w, i32_w]
            rfl
           refine pure_ (i := 10) (N := some 22) (v := ?_) (a' := ?_) #[true,true,true,true,true,true,true,true,true,true,true,false,false,false,false,false,false] rfl rfl (any_of HT_.out (by kernel_rfl)) (fun _ _ _ h => h) (Or.inl ⟨by rfl, ?_⟩) ?_ ?_
           rotate_left
           ·
            intro w'
            go_simp
            with_reducible rfl
           rotate_left
           ·
            simp only [Act.put, List.setIfInBounds_toArray, List.set_cons_zero, List.set_cons_succ, i64_w, i32_w]
            rfl
           refine take_ (i := 11) (N := some 23) (v := ?_) (a' := ?_) #[true,true,true,true,true,true,true,true,true,true,true,true,false,false,false,false,false] rfl rfl (take_ofW HT_.out HW_.out (by kernel_rfl)) (fun _ _ _ h => h) (Or.inl ⟨by rfl, ?_⟩) hHeld ?_ ?_
           rotate_left
           ·
            rintro w' ⟨s0, s1, s2, s3, s4, s5⟩
            go_simp
            with_reducible rfl
           rotate_left
           ·
            simp only [Act.put, List.setIfInBounds_toArray, List.set_cons_zero, List.set_cons_succ, i64_w, i32_w]
            rfl
           refine take_ (i := 12) (N := some 24) (v := ?_) (a' := ?_) #[true,true,true,true,true,true,true,true,true,true,true,true,true,false,false,false,false] rfl rfl (take_ofW HT_.out HW_.out (by kernel_rfl)) (fun _ _ _ h => h) (Or.inl ⟨by rfl, ?_⟩) hHeld ?_ ?_
           rotate_left
           ·
            rintro w' ⟨s0, s1, s2, s3, s4, s5⟩
            go_simp
            with_reducible rfl
           rotate_left
           ·
            simp only [Act.put, List.setIfInBounds_toArray, List.set_cons_zero, List.set_cons_succ, i64_w, i32_w]
            rfl
           refine one_ (i := 13) (N := some 25) #[true,true,true,true,true,true,true,true,true,true,true,true,true,true,false,false,false] rfl rfl (one_of HT_.out (by kernel_rfl)) (by decide) (fun K hK => ?_)
           refine goes_ Try.func49 (by kernel_rfl) rfl #[.agg #[.int .i64 ((rd_T46 l0 (ji8)).f0), .int .i64 ((rd_T46 l0 (ji8)).f1), .int .i64 ((rd_T46 l0 (ji8)).f2)], .agg #[.int .i64 ((rd_T46 l0 x7_1).f0), .int .i64 ((rd_T46 l0 x7_1).f1), .int .i64 ((rd_T46 l0 x7_1).f2)]] (by rfl) rfl rfl (by (try simp only [List.map_toArray, List.map_cons, List.map_nil]); first | done | (simp only [hji8]; rfl) | rfl | (simp only [List.length_drop, List.length_take]; rfl)) ?_
           with_reducible refine (span_ahead.calls ((rd_T46 l0 (ji8)).f0) ((rd_T46 l0 (ji8)).f1) ((rd_T46 l0 (ji8)).f2) ((rd_T46 l0 x7_1).f0) ((rd_T46 l0 x7_1).f1) ((rd_T46 l0 x7_1).f2) false _ A11.out).mono ?_
           rintro e w24 ⟨rfl, hb⟩
           refine ⟨_, rfl, ?_⟩
           have n0_ := Aside0.mk (blk_below BK105.out hb)
           have n1_ := Aside0.mk (below_step (HB.out) hb)
           clear BK105
           clear HB
           have BK105 := n0_
           have HB := n1_
           clear n0_ n1_
           (try clear hb)
           (try clear hb2)
           (try clear hk)
           (try clear hi)
           refine hK.out _ _ ⟨(blk_cell BK105.out 0).trans rfl, (blk_cell BK105.out 1).trans rfl, (blk_cell BK105.out 2).trans rfl, ((HB.out.cell (World.block_lt_of_cell? w _ hw107_0)).trans hw107_0), ((HB.out.cell (World.block_lt_of_cell? w _ hw107_1)).trans hw107_1), ((HB.out.cell (World.block_lt_of_cell? w _ hw107_2)).trans hw107_2)⟩ (fun hHeld => ?_)
           clear hK K
           refine norm_ (a' := ?_) ?_ ?_
           rotate_left
           ·
            show Act.put _ (some 25) _ = _
            simp only [Act.put, List.setIfInBounds_toArray, List.set_cons_zero, List.set_cons_succ, i64_w, i32_w]
            rfl
           refine pure_ (i := 14) (N := some 26) (v := ?_) (a' := ?_) #[true,true,true,true,true,true,true,true,true,true,true,true,true,true,true,false,false] rfl rfl (any_of HT_.out (by kernel_rfl)) (fun _ _ _ h => h) (Or.inl ⟨by rfl, ?_⟩) ?_ ?_
           rotate_left
           ·
            intro w'
            go_simp
            with_reducible rfl
           rotate_left
           ·
            simp only [Act.put, List.setIfInBounds_toArray, List.set_cons_zero, List.set_cons_succ, i64_w, i32_w]
            rfl
           refine pure_ (i := 15) (N := some 27) (v := ?_) (a' := ?_) #[true,true,true,true,true,true,true,true,true,true,true,true,true,true,true,true,false] rfl rfl (any_of HT_.out (by kernel_rfl)) (fun _ _ _ h => h) (Or.inl ⟨by rfl, ?_⟩) ?_ ?_
           rotate_left
           ·
            intro w'
            go_simp
            with_reducible rfl
           rotate_left
           ·
            simp only [Act.put, List.setIfInBounds_toArray, List.set_cons_zero, List.set_cons_succ, i64_w, i32_w]
            rfl
           refine pure_ (i := 16) (N := some 28) (v := ?_) (a' := ?_) #[true,true,true,true,true,true,true,true,true,true,true,true,true,true,true,true,true] rfl rfl (any_of HT_.out (by kernel_rfl)) (fun _ _ _ h => h) (Or.inl ⟨by rfl, ?_⟩) ?_ ?_
           rotate_left
           ·
            intro w'
            go_simp
            with_reducible rfl
           rotate_left
           ·
            simp only [Act.put, List.setIfInBounds_toArray, List.set_cons_zero, List.set_cons_succ, i64_w, i32_w]
            rfl
           refine done_ (done_of HT_.out (by kernel_rfl)) ?_
           try go_wp2
           go_ret
           exact ⟨by first | rfl | (simp [errW_none, errW_some] <;> rfl) | (simp only [← hji8]; first | rfl | (simp [errW_none, errW_some] <;> rfl)) | (simp [*, errW_none, errW_some] <;> rfl), HB.out⟩
         ·
          rw [if_neg c10] at H
          exact absurd H (by simp)
        ·
         rw [if_neg c9] at H
         exact absurd H (by simp)
       ·
        rw [if_neg c7] at H
        have c7b0 : decide (0 < x7_1) = false := decide_eq_false c7
        clear c7
        have H' := Aside0.mk H
        clear H
        have p104 : 0 ≤ (x7_1 : Int) := of_decide_eq_true (by first | (with_reducible assumption) | assumption)
        have q104 : x7_1 < (l0.length : Int) := of_decide_eq_true (by first | (with_reducible assumption) | assumption)
        obtain ⟨ad104, e104, hx104_0, hx104_1, hx104_2⟩ := at_T46 HR0.out x7_1 p104 q104
        cases e104
        replace hx104_0 := (HB.out.cell (World.block_lt_of_cell? w _ hx104_0)).trans hx104_0
        replace hx104_1 := (HB.out.cell (World.block_lt_of_cell? w _ hx104_1)).trans hx104_1
        replace hx104_2 := (HB.out.cell (World.block_lt_of_cell? w _ hx104_2)).trans hx104_2
        replace p104 := eq_true p104
        replace q104 := eq_true q104
        try go_wp2_with (first | ((with_reducible refine gate_dst (N := 4) rfl ?_); refine box_event ?hg (N := 4) ?hd (cs := #[.int .i64 0, .int .i64 0, .int .i64 0]) (t := 46) ?hr ?_; (case hd => rfl); (case hg => rfl); (case hr => first | (go_simp; done) | (go_simp; rfl)); intro gb105 hg w25 hbox hb; have BK105 := Aside0.mk (hbox); have GW105 := Aside0.mk ((by rw [hg]; exact (below_size (HB.out)) : w.heap.size ≤ gb105)); have GE105 := Aside0.mk ((by rw [hg]; exact (below_size (HB.out)) : w.heap.size ≤ gb105)); replace HB := Aside0.mk (below_step (HB.out) hb); clear hb hbox hg; obtain ⟨hcz26_0, hcz26_1, hcz26_2⟩ := blkc3 BK105.out; obtain ⟨hfz26_0, hfz26_1, hfz26_2⟩ := blkf3 BK105.out))
        have n0_ : Aside0 ((((w25.setCell ⟨gb105, 0, none⟩ (.int .i64 ((rd_T46 l0 x7_1).f0))).setCell ⟨gb105, 1, none⟩ (.int .i64 ((rd_T46 l0 x7_1).f1))).setCell ⟨gb105, 2, none⟩ (.int .i64 ((rd_T46 l0 x7_1).f2))).heap[gb105]? = some (.cells #[.int .i64 ((rd_T46 l0 x7_1).f0), .int .i64 ((rd_T46 l0 x7_1).f1), .int .i64 ((rd_T46 l0 x7_1).f2)] 46 (0, 0))) := ⟨by (with_reducible repeat (first | refine blk_drewN ?_ _ | refine blk_drew ?_ | refine blk_alloc ?_ _)); refine blk_put (cs := #[.int .i64 ((rd_T46 l0 x7_1).f0), .int .i64 ((rd_T46 l0 x7_1).f1), .int .i64 0]) ?_ 2 _ rfl; (with_reducible repeat (first | refine blk_drewN ?_ _ | refine blk_drew ?_ | refine blk_alloc ?_ _)); refine blk_put (cs := #[.int .i64 ((rd_T46 l0 x7_1).f0), .int .i64 0, .int .i64 0]) ?_ 1 _ rfl; (with_reducible repeat (first | refine blk_drewN ?_ _ | refine blk_drew ?_ | refine blk_alloc ?_ _)); refine blk_put (cs := #[.int .i64 0, .int .i64 0, .int .i64 0]) ?_ 0 _ rfl; (with_reducible repeat (first | refine blk_drewN ?_ _ | refine blk_drew ?_ | refine blk_alloc ?_ _)); exact BK105.out⟩
        have n1_ : Aside0 (Below w.heap.size w (((w25.setCell ⟨gb105, 0, none⟩ (.int .i64 ((rd_T46 l0 x7_1).f0))).setCell ⟨gb105, 1, none⟩ (.int .i64 ((rd_T46 l0 x7_1).f1))).setCell ⟨gb105, 2, none⟩ (.int .i64 ((rd_T46 l0 x7_1).f2)))) := ⟨by repeat (first | (with_reducible first | exact HB.out | apply below_alloc | apply pw_below_drewN | apply below_drew1 | refine below_set ?_ GE105.out) | exact HB.out)⟩
        (try clear BK105)
        (try clear HB)
        first | (rw [drewN_self (((w25.setCell ⟨gb105, 0, none⟩ (.int .i64 ((rd_T46 l0 x7_1).f0))).setCell ⟨gb105, 1, none⟩ (.int .i64 ((rd_T46 l0 x7_1).f1))).setCell ⟨gb105, 2, none⟩ (.int .i64 ((rd_T46 l0 x7_1).f2)))]; generalize hq_ : World.drewN (((w25.setCell ⟨gb105, 0, none⟩ (.int .i64 ((rd_T46 l0 x7_1).f0))).setCell ⟨gb105, 1, none⟩ (.int .i64 ((rd_T46 l0 x7_1).f1))).setCell ⟨gb105, 2, none⟩ (.int .i64 ((rd_T46 l0 x7_1).f2))) _ = w27; have m0_ : Aside0 (w27.heap[gb105]? = some (.cells #[.int .i64 ((rd_T46 l0 x7_1).f0), .int .i64 ((rd_T46 l0 x7_1).f1), .int .i64 ((rd_T46 l0 x7_1).f2)] 46 (0, 0))) := ⟨by rw [← hq_]; first | exact Kd.R_drewN n0_.out _ | exact Kd.Q_drewN n0_.out _ | exact blk_drewN n0_.out _ | exact pw_below_drewN n0_.out _ | exact Kd.S_drewN n0_.out _ | exact n0_.out⟩; have m1_ : Aside0 (Below w.heap.size w w27) := ⟨by rw [← hq_]; first | exact Kd.R_drewN n1_.out _ | exact Kd.Q_drewN n1_.out _ | exact blk_drewN n1_.out _ | exact pw_below_drewN n1_.out _ | exact Kd.S_drewN n1_.out _ | exact n1_.out⟩; clear hq_ n0_ n1_; have n0_ := m0_; have n1_ := m1_; clear m0_ m1_) | (generalize (((w25.setCell ⟨gb105, 0, none⟩ (.int .i64 ((rd_T46 l0 x7_1).f0))).setCell ⟨gb105, 1, none⟩ (.int .i64 ((rd_T46 l0 x7_1).f1))).setCell ⟨gb105, 2, none⟩ (.int .i64 ((rd_T46 l0 x7_1).f2))) = w27 at n0_ n1_ ⊢)
        have BK105 := n0_
        have HB := n1_
        clear n0_ n1_
        have n0_ := Aside0.mk (blk_drew BK105.out)
        have n1_ := Aside0.mk (below_drew1 HB.out)
        clear BK105
        clear HB
        have BK105 := n0_
        have HB := n1_
        clear n0_ n1_
        refine start_ (n := 17) (S := fun w' => w'.cell? ⟨gb105, 0, none⟩ = some (.int .i64 ((rd_T46 l0 x7_1).f0)) ∧ w'.cell? ⟨gb105, 1, none⟩ = some (.int .i64 ((rd_T46 l0 x7_1).f1)) ∧ w'.cell? ⟨gb105, 2, none⟩ = some (.int .i64 ((rd_T46 l0 x7_1).f2))) (ds := []) #[false,false,false,false,false,false,false,false,false,false,false,false,false,false,false,false,false] (by kernel_rfl) rfl rfl ⟨(blk_cell BK105.out 0).trans rfl, (blk_cell BK105.out 1).trans rfl, (blk_cell BK105.out 2).trans rfl⟩ (fun hHeld => ?_); refine with_tabW span_Canon.tab4 span_Canon.bits4 (fun HT_ HW_ => ?_)
        generalize w27.drew = w28 at BK105 HB hHeld ⊢
        refine take_ (i := 0) (N := some 12) (v := ?_) (a' := ?_) #[true,false,false,false,false,false,false,false,false,false,false,false,false,false,false,false,false] rfl rfl (take_ofW HT_.out HW_.out (by kernel_rfl)) (fun _ _ _ h => h) (Or.inl ⟨by rfl, ?_⟩) hHeld ?_ ?_
        rotate_left
        ·
         rintro w' ⟨s0, s1, s2⟩
         go_simp
         with_reducible rfl
        rotate_left
        ·
         simp only [Act.put, List.setIfInBounds_toArray, List.set_cons_zero, List.set_cons_succ, i64_w, i32_w]
         rfl
        refine one_ (i := 1) (N := some 13) #[true,true,false,false,false,false,false,false,false,false,false,false,false,false,false,false,false] rfl rfl (one_of HT_.out (by kernel_rfl)) (by decide) (fun K hK => ?_)
        refine goes_ Try.func48 (by kernel_rfl) rfl #[.agg #[.int .i64 ((rd_T46 l0 x7_1).f0), .int .i64 ((rd_T46 l0 x7_1).f1), .int .i64 ((rd_T46 l0 x7_1).f2)]] (by rfl) rfl rfl (by (try simp only [List.map_toArray, List.map_cons, List.map_nil]); first | done | rfl | (simp only [List.length_drop, List.length_take]; rfl)) ?_
        with_reducible refine (span_Right.calls ((rd_T46 l0 x7_1).f0) ((rd_T46 l0 x7_1).f1) ((rd_T46 l0 x7_1).f2) true _ A5.out).mono ?_
        rintro e w29 ⟨rfl, hb⟩
        refine ⟨_, rfl, ?_⟩
        have n0_ := Aside0.mk (blk_below BK105.out hb)
        have n1_ := Aside0.mk (below_step (HB.out) hb)
        clear BK105
        clear HB
        have BK105 := n0_
        have HB := n1_
        clear n0_ n1_
        (try clear hb)
        (try clear hb2)
        (try clear hk)
        (try clear hi)
        refine hK.out _ _ ⟨(blk_cell BK105.out 0).trans rfl, (blk_cell BK105.out 1).trans rfl, (blk_cell BK105.out 2).trans rfl⟩ (fun hHeld => ?_)
        clear hK K
        refine norm_ (a' := ?_) ?_ ?_
        rotate_left
        ·
         show Act.put _ (some 13) _ = _
         simp only [Act.put, List.setIfInBounds_toArray, List.set_cons_zero, List.set_cons_succ, i64_w, i32_w]
         rfl
        refine pure_ (i := 2) (N := some 14) (v := ?_) (a' := ?_) #[true,true,true,false,false,false,false,false,false,false,false,false,false,false,false,false,false] rfl rfl (any_of HT_.out (by kernel_rfl)) (fun _ _ _ h => h) (Or.inl ⟨by rfl, ?_⟩) ?_ ?_
        rotate_left
        ·
         intro w'
         go_simp
         with_reducible rfl
        rotate_left
        ·
         simp only [Act.put, List.setIfInBounds_toArray, List.set_cons_zero, List.set_cons_succ, i64_w, i32_w]
         rfl
        refine pure_ (i := 3) (N := some 15) (v := ?_) (a' := ?_) #[true,true,true,true,false,false,false,false,false,false,false,false,false,false,false,false,false] rfl rfl (any_of HT_.out (by kernel_rfl)) (fun _ _ _ h => h) (Or.inl ⟨by rfl, ?_⟩) ?_ ?_
        rotate_left
        ·
         intro w'
         go_simp
         with_reducible rfl
        rotate_left
        ·
         simp only [Act.put, List.setIfInBounds_toArray, List.set_cons_zero, List.set_cons_succ, i64_w, i32_w]
         rfl
        refine pure_ (i := 4) (N := some 16) (v := ?_) (a' := ?_) #[true,true,true,true,true,false,false,false,false,false,false,false,false,false,false,false,false] rfl rfl (any_of HT_.out (by kernel_rfl)) (fun _ _ _ h => h) (Or.inl ⟨by rfl, ?_⟩) ?_ ?_
        rotate_left
        ·
         intro w'
         go_simp
         with_reducible rfl
        rotate_left
        ·
         simp only [Act.put, List.setIfInBounds_toArray, List.set_cons_zero, List.set_cons_succ, i64_w, i32_w]
         rfl
        refine pure_ (i := 5) (N := some 17) (v := ?_) (a' := ?_) #[true,true,true,true,true,true,false,false,false,false,false,false,false,false,false,false,false] rfl rfl (any_of HT_.out (by kernel_rfl)) (fun _ _ _ h => h) (Or.inl ⟨by rfl, ?_⟩) ?_ ?_
        rotate_left
        ·
         intro w'
         go_simp
         with_reducible rfl
        rotate_left
        ·
         simp only [Act.put, List.setIfInBounds_toArray, List.set_cons_zero, List.set_cons_succ, i64_w, i32_w]
         rfl
        refine pure_ (i := 6) (N := some 18) (v := ?_) (a' := ?_) #[true,true,true,true,true,true,true,false,false,false,false,false,false,false,false,false,false] rfl rfl (any_of HT_.out (by kernel_rfl)) (fun _ _ _ h => h) (Or.inl ⟨by rfl, ?_⟩) ?_ ?_
        rotate_left
        ·
         intro w'
         go_simp
         with_reducible rfl
        rotate_left
        ·
         simp only [Act.put, List.setIfInBounds_toArray, List.set_cons_zero, List.set_cons_succ, i64_w, i32_w]
         rfl
        refine pure_ (i := 7) (N := some 19) (v := undef) (a' := ?_) #[true,true,true,true,true,true,true,true,false,false,false,false,false,false,false,false,false] rfl rfl (any_of HT_.out (by kernel_rfl)) (fun _ _ _ h => h) (Or.inr ⟨by rfl, rfl⟩) ?_ ?_
        rotate_left
        ·
         simp only [Act.put, List.setIfInBounds_toArray, List.set_cons_zero, List.set_cons_succ, i64_w, i32_w]
         rfl
        refine pure_ (i := 8) (N := some 20) (v := undef) (a' := ?_) #[true,true,true,true,true,true,true,true,true,false,false,false,false,false,false,false,false] rfl rfl (any_of HT_.out (by kernel_rfl)) (fun _ _ _ h => h) (Or.inr ⟨by rfl, rfl⟩) ?_ ?_
        rotate_left
        ·
         simp only [Act.put, List.setIfInBounds_toArray, List.set_cons_zero, List.set_cons_succ, i64_w, i32_w]
         rfl
        refine pure_ (i := 9) (N := some 21) (v := undef) (a' := ?_) #[true,true,true,true,true,true,true,true,true,true,false,false,false,false,false,false,false] rfl rfl (any_of HT_.out (by kernel_rfl)) (fun _ _ _ h => h) (Or.inr ⟨by rfl, rfl⟩) ?_ ?_
        rotate_left
        ·
         simp only [Act.put, List.setIfInBounds_toArray, List.set_cons_zero, List.set_cons_succ, i64_w, i32_w]
         rfl
        refine pure_ (i := 10) (N := some 22) (v := undef) (a' := ?_) #[true,true,true,true,true,true,true,true,true,true,true,false,false,false,false,false,false] rfl rfl (any_of HT_.out (by kernel_rfl)) (fun _ _ _ h => h) (Or.inr ⟨by rfl, rfl⟩) ?_ ?_
        rotate_left
        ·
         simp only [Act.put, List.setIfInBounds_toArray, List.set_cons_zero, List.set_cons_succ, i64_w, i32_w]
         rfl
        refine pure_ (i := 11) (N := some 23) (v := undef) (a' := ?_) #[true,true,true,true,true,true,true,true,true,true,true,true,false,false,false,false,false] rfl rfl (any_of HT_.out (by kernel_rfl)) (fun _ _ _ h => h) (Or.inr ⟨by rfl, rfl⟩) ?_ ?_
        rotate_left
        ·
         simp only [Act.put, List.setIfInBounds_toArray, List.set_cons_zero, List.set_cons_succ, i64_w, i32_w]
         rfl
        refine pure_ (i := 12) (N := some 24) (v := undef) (a' := ?_) #[true,true,true,true,true,true,true,true,true,true,true,true,true,false,false,false,false] rfl rfl (any_of HT_.out (by kernel_rfl)) (fun _ _ _ h => h) (Or.inr ⟨by rfl, rfl⟩) ?_ ?_
        rotate_left
        ·
         simp only [Act.put, List.setIfInBounds_toArray, List.set_cons_zero, List.set_cons_succ, i64_w, i32_w]
         rfl
        refine pure_ (i := 13) (N := some 25) (v := undef) (a' := ?_) #[true,true,true,true,true,true,true,true,true,true,true,true,true,true,false,false,false] rfl rfl (any_of HT_.out (by kernel_rfl)) (fun _ _ _ h => h) (Or.inr ⟨by rfl, rfl⟩) ?_ ?_
        rotate_left
        ·
         simp only [Act.put, List.setIfInBounds_toArray, List.set_cons_zero, List.set_cons_succ, i64_w, i32_w]
         rfl
        refine pure_ (i := 14) (N := some 26) (v := undef) (a' := ?_) #[true,true,true,true,true,true,true,true,true,true,true,true,true,true,true,false,false] rfl rfl (any_of HT_.out (by kernel_rfl)) (fun _ _ _ h => h) (Or.inr ⟨by rfl, rfl⟩) ?_ ?_
        rotate_left
        ·
         simp only [Act.put, List.setIfInBounds_toArray, List.set_cons_zero, List.set_cons_succ, i64_w, i32_w]
         rfl
        refine pure_ (i := 15) (N := some 27) (v := ?_) (a' := ?_) #[true,true,true,true,true,true,true,true,true,true,true,true,true,true,true,true,false] rfl rfl (any_of HT_.out (by kernel_rfl)) (fun _ _ _ h => h) (Or.inl ⟨by rfl, ?_⟩) ?_ ?_
        rotate_left
        ·
         intro w'
         go_simp
         with_reducible rfl
        rotate_left
        ·
         simp only [Act.put, List.setIfInBounds_toArray, List.set_cons_zero, List.set_cons_succ, i64_w, i32_w]
         rfl
        refine pure_ (i := 16) (N := some 28) (v := ?_) (a' := ?_) #[true,true,true,true,true,true,true,true,true,true,true,true,true,true,true,true,true] rfl rfl (any_of HT_.out (by kernel_rfl)) (fun _ _ _ h => h) (Or.inl ⟨by rfl, ?_⟩) ?_ ?_
        rotate_left
        ·
         intro w'
         go_simp
         with_reducible rfl
        rotate_left
        ·
         simp only [Act.put, List.setIfInBounds_toArray, List.set_cons_zero, List.set_cons_succ, i64_w, i32_w]
         rfl
        refine done_ (done_of HT_.out (by kernel_rfl)) ?_
        try go_wp2
        go_roundg k1
        case measure => have := HK1.out; omega
        case rel => exact ⟨(wrap64 (x7_1 + 1)), (by first | rfl | (simp; done) | (simp [*]; done)), H', ⟨by have := HK1.out; omega⟩, ⟨HB.out⟩⟩
      ·
       replace c6 := Bool.eq_false_iff.mpr c6
       subst c6
       have H1 : (some false) = some r := by rw [if_neg (show ¬ (false = true) by decide)] at H; exact H
       clear H
       have H := H1
       clear H1
       obtain rfl := Option.some.inj H
       have p104 : 0 ≤ (x7_1 : Int) := of_decide_eq_true (by first | (with_reducible assumption) | assumption)
       have q104 : x7_1 < (l0.length : Int) := of_decide_eq_true (by first | (with_reducible assumption) | assumption)
       obtain ⟨ad104, e104, hx104_0, hx104_1, hx104_2⟩ := at_T46 HR0.out x7_1 p104 q104
       cases e104
       replace hx104_0 := (HB.out.cell (World.block_lt_of_cell? w _ hx104_0)).trans hx104_0
       replace hx104_1 := (HB.out.cell (World.block_lt_of_cell? w _ hx104_1)).trans hx104_1
       replace hx104_2 := (HB.out.cell (World.block_lt_of_cell? w _ hx104_2)).trans hx104_2
       replace p104 := eq_true p104
       replace q104 := eq_true q104
       try go_wp2_with (first | ((with_reducible refine gate_dst (N := 4) rfl ?_); refine box_event ?hg (N := 4) ?hd (cs := #[.int .i64 0, .int .i64 0, .int .i64 0]) (t := 46) ?hr ?_; (case hd => rfl); (case hg => rfl); (case hr => first | (go_simp; done) | (go_simp; rfl)); intro gb105 hg w30 hbox hb; have BK105 := Aside0.mk (hbox); have GW105 := Aside0.mk ((by rw [hg]; exact (below_size (HB.out)) : w.heap.size ≤ gb105)); have GE105 := Aside0.mk ((by rw [hg]; exact (below_size (HB.out)) : w.heap.size ≤ gb105)); replace HB := Aside0.mk (below_step (HB.out) hb); clear hb hbox hg; obtain ⟨hcz31_0, hcz31_1, hcz31_2⟩ := blkc3 BK105.out; obtain ⟨hfz31_0, hfz31_1, hfz31_2⟩ := blkf3 BK105.out))
       have n0_ : Aside0 ((((w30.setCell ⟨gb105, 0, none⟩ (.int .i64 ((rd_T46 l0 x7_1).f0))).setCell ⟨gb105, 1, none⟩ (.int .i64 ((rd_T46 l0 x7_1).f1))).setCell ⟨gb105, 2, none⟩ (.int .i64 ((rd_T46 l0 x7_1).f2))).heap[gb105]? = some (.cells #[.int .i64 ((rd_T46 l0 x7_1).f0), .int .i64 ((rd_T46 l0 x7_1).f1), .int .i64 ((rd_T46 l0 x7_1).f2)] 46 (0, 0))) := ⟨by (with_reducible repeat (first | refine blk_drewN ?_ _ | refine blk_drew ?_ | refine blk_alloc ?_ _)); refine blk_put (cs := #[.int .i64 ((rd_T46 l0 x7_1).f0), .int .i64 ((rd_T46 l0 x7_1).f1), .int .i64 0]) ?_ 2 _ rfl; (with_reducible repeat (first | refine blk_drewN ?_ _ | refine blk_drew ?_ | refine blk_alloc ?_ _)); refine blk_put (cs := #[.int .i64 ((rd_T46 l0 x7_1).f0), .int .i64 0, .int .i64 0]) ?_ 1 _ rfl; (with_reducible repeat (first | refine blk_drewN ?_ _ | refine blk_drew ?_ | refine blk_alloc ?_ _)); refine blk_put (cs := #[.int .i64 0, .int .i64 0, .int .i64 0]) ?_ 0 _ rfl; (with_reducible repeat (first | refine blk_drewN ?_ _ | refine blk_drew ?_ | refine blk_alloc ?_ _)); exact BK105.out⟩
       have n1_ : Aside0 (Below w.heap.size w (((w30.setCell ⟨gb105, 0, none⟩ (.int .i64 ((rd_T46 l0 x7_1).f0))).setCell ⟨gb105, 1, none⟩ (.int .i64 ((rd_T46 l0 x7_1).f1))).setCell ⟨gb105, 2, none⟩ (.int .i64 ((rd_T46 l0 x7_1).f2)))) := ⟨by repeat (first | (with_reducible first | exact HB.out | apply below_alloc | apply pw_below_drewN | apply below_drew1 | refine below_set ?_ GE105.out) | exact HB.out)⟩
       (try clear BK105)
       (try clear HB)
       first | (rw [drewN_self (((w30.setCell ⟨gb105, 0, none⟩ (.int .i64 ((rd_T46 l0 x7_1).f0))).setCell ⟨gb105, 1, none⟩ (.int .i64 ((rd_T46 l0 x7_1).f1))).setCell ⟨gb105, 2, none⟩ (.int .i64 ((rd_T46 l0 x7_1).f2)))]; generalize hq_ : World.drewN (((w30.setCell ⟨gb105, 0, none⟩ (.int .i64 ((rd_T46 l0 x7_1).f0))).setCell ⟨gb105, 1, none⟩ (.int .i64 ((rd_T46 l0 x7_1).f1))).setCell ⟨gb105, 2, none⟩ (.int .i64 ((rd_T46 l0 x7_1).f2))) _ = w32; have m0_ : Aside0 (w32.heap[gb105]? = some (.cells #[.int .i64 ((rd_T46 l0 x7_1).f0), .int .i64 ((rd_T46 l0 x7_1).f1), .int .i64 ((rd_T46 l0 x7_1).f2)] 46 (0, 0))) := ⟨by rw [← hq_]; first | exact Kd.R_drewN n0_.out _ | exact Kd.Q_drewN n0_.out _ | exact blk_drewN n0_.out _ | exact pw_below_drewN n0_.out _ | exact Kd.S_drewN n0_.out _ | exact n0_.out⟩; have m1_ : Aside0 (Below w.heap.size w w32) := ⟨by rw [← hq_]; first | exact Kd.R_drewN n1_.out _ | exact Kd.Q_drewN n1_.out _ | exact blk_drewN n1_.out _ | exact pw_below_drewN n1_.out _ | exact Kd.S_drewN n1_.out _ | exact n1_.out⟩; clear hq_ n0_ n1_; have n0_ := m0_; have n1_ := m1_; clear m0_ m1_) | (generalize (((w30.setCell ⟨gb105, 0, none⟩ (.int .i64 ((rd_T46 l0 x7_1).f0))).setCell ⟨gb105, 1, none⟩ (.int .i64 ((rd_T46 l0 x7_1).f1))).setCell ⟨gb105, 2, none⟩ (.int .i64 ((rd_T46 l0 x7_1).f2))) = w32 at n0_ n1_ ⊢)
       have BK105 := n0_
       have HB := n1_
       clear n0_ n1_
       have n0_ := Aside0.mk (blk_drew BK105.out)
       have n1_ := Aside0.mk (below_drew1 HB.out)
       clear BK105
       clear HB
       have BK105 := n0_
       have HB := n1_
       clear n0_ n1_
       refine start_ (n := 17) (S := fun w' => w'.cell? ⟨gb105, 0, none⟩ = some (.int .i64 ((rd_T46 l0 x7_1).f0)) ∧ w'.cell? ⟨gb105, 1, none⟩ = some (.int .i64 ((rd_T46 l0 x7_1).f1)) ∧ w'.cell? ⟨gb105, 2, none⟩ = some (.int .i64 ((rd_T46 l0 x7_1).f2))) (ds := []) #[false,false,false,false,false,false,false,false,false,false,false,false,false,false,false,false,false] (by kernel_rfl) rfl rfl ⟨(blk_cell BK105.out 0).trans rfl, (blk_cell BK105.out 1).trans rfl, (blk_cell BK105.out 2).trans rfl⟩ (fun hHeld => ?_); refine with_tabW span_Canon.tab4 span_Canon.bits4 (fun HT_ HW_ => ?_)
       generalize w32.drew = w33 at BK105 HB hHeld ⊢
       refine take_ (i := 0) (N := some 12) (v := ?_) (a' := ?_) #[true,false,false,false,false,false,false,false,false,false,false,false,false,false,false,false,false] rfl rfl (take_ofW HT_.out HW_.out (by kernel_rfl)) (fun _ _ _ h => h) (Or.inl ⟨by rfl, ?_⟩) hHeld ?_ ?_
       rotate_left
       ·
        rintro w' ⟨s0, s1, s2⟩
        go_simp
        with_reducible rfl
       rotate_left
       ·
        simp only [Act.put, List.setIfInBounds_toArray, List.set_cons_zero, List.set_cons_succ, i64_w, i32_w]
        rfl
       refine one_ (i := 1) (N := some 13) #[true,true,false,false,false,false,false,false,false,false,false,false,false,false,false,false,false] rfl rfl (one_of HT_.out (by kernel_rfl)) (by decide) (fun K hK => ?_)
       refine goes_ Try.func48 (by kernel_rfl) rfl #[.agg #[.int .i64 ((rd_T46 l0 x7_1).f0), .int .i64 ((rd_T46 l0 x7_1).f1), .int .i64 ((rd_T46 l0 x7_1).f2)]] (by rfl) rfl rfl (by (try simp only [List.map_toArray, List.map_cons, List.map_nil]); first | done | rfl | (simp only [List.length_drop, List.length_take]; rfl)) ?_
       with_reducible refine (span_Right.calls ((rd_T46 l0 x7_1).f0) ((rd_T46 l0 x7_1).f1) ((rd_T46 l0 x7_1).f2) false _ A5.out).mono ?_
       rintro e w34 ⟨rfl, hb⟩
       refine ⟨_, rfl, ?_⟩
       have n0_ := Aside0.mk (blk_below BK105.out hb)
       have n1_ := Aside0.mk (below_step (HB.out) hb)
       clear BK105
       clear HB
       have BK105 := n0_
       have HB := n1_
       clear n0_ n1_
       (try clear hb)
       (try clear hb2)
       (try clear hk)
       (try clear hi)
       refine hK.out _ _ ⟨(blk_cell BK105.out 0).trans rfl, (blk_cell BK105.out 1).trans rfl, (blk_cell BK105.out 2).trans rfl⟩ (fun hHeld => ?_)
       clear hK K
       refine norm_ (a' := ?_) ?_ ?_
       rotate_left
       ·
        show Act.put _ (some 13) _ = _
        simp only [Act.put, List.setIfInBounds_toArray, List.set_cons_zero, List.set_cons_succ, i64_w, i32_w]
        rfl
       refine pure_ (i := 2) (N := some 14) (v := ?_) (a' := ?_) #[true,true,true,false,false,false,false,false,false,false,false,false,false,false,false,false,false] rfl rfl (any_of HT_.out (by kernel_rfl)) (fun _ _ _ h => h) (Or.inl ⟨by rfl, ?_⟩) ?_ ?_
       rotate_left
       ·
        intro w'
        go_simp
        with_reducible rfl
       rotate_left
       ·
        simp only [Act.put, List.setIfInBounds_toArray, List.set_cons_zero, List.set_cons_succ, i64_w, i32_w]
        rfl
       refine pure_ (i := 3) (N := some 15) (v := ?_) (a' := ?_) #[true,true,true,true,false,false,false,false,false,false,false,false,false,false,false,false,false] rfl rfl (any_of HT_.out (by kernel_rfl)) (fun _ _ _ h => h) (Or.inl ⟨by rfl, ?_⟩) ?_ ?_
       rotate_left
       ·
        intro w'
        go_simp
        with_reducible rfl
       rotate_left
       ·
        simp only [Act.put, List.setIfInBounds_toArray, List.set_cons_zero, List.set_cons_succ, i64_w, i32_w]
        rfl
       refine pure_ (i := 4) (N := some 16) (v := undef) (a' := ?_) #[true,true,true,true,true,false,false,false,false,false,false,false,false,false,false,false,false] rfl rfl (any_of HT_.out (by kernel_rfl)) (fun _ _ _ h => h) (Or.inr ⟨by rfl, rfl⟩) ?_ ?_
       rotate_left
       ·
        simp only [Act.put, List.setIfInBounds_toArray, List.set_cons_zero, List.set_cons_succ, i64_w, i32_w]
        rfl
       refine pure_ (i := 5) (N := some 17) (v := undef) (a' := ?_) #[true,true,true,true,true,true,false,false,false,false,false,false,false,false,false,false,false] rfl rfl (any_of HT_.out (by kernel_rfl)) (fun _ _ _ h => h) (Or.inr ⟨by rfl, rfl⟩) ?_ ?_
       rotate_left
       ·
        simp only [Act.put, List.setIfInBounds_toArray, List.set_cons_zero, List.set_cons_succ, i64_w, i32_w]
        rfl
       refine pure_ (i := 6) (N := some 18) (v := undef) (a' := ?_) #[true,true,true,true,true,true,true,false,false,false,false,false,false,false,false,false,false] rfl rfl (any_of HT_.out (by kernel_rfl)) (fun _ _ _ h => h) (Or.inr ⟨by rfl, rfl⟩) ?_ ?_
       rotate_left
       ·
        simp only [Act.put, List.setIfInBounds_toArray, List.set_cons_zero, List.set_cons_succ, i64_w, i32_w]
        rfl
       refine pure_ (i := 7) (N := some 19) (v := undef) (a' := ?_) #[true,true,true,true,true,true,true,true,false,false,false,false,false,false,false,false,false] rfl rfl (any_of HT_.out (by kernel_rfl)) (fun _ _ _ h => h) (Or.inr ⟨by rfl, rfl⟩) ?_ ?_
       rotate_left
       ·
        simp only [Act.put, List.setIfInBounds_toArray, List.set_cons_zero, List.set_cons_succ, i64_w, i32_w]
        rfl
       refine pure_ (i := 8) (N := some 20) (v := undef) (a' := ?_) #[true,true,true,true,true,true,true,true,true,false,false,false,false,false,false,false,false] rfl rfl (any_of HT_.out (by kernel_rfl)) (fun _ _ _ h => h) (Or.inr ⟨by rfl, rfl⟩) ?_ ?_
       rotate_left
       ·
        simp only [Act.put, List.setIfInBounds_toArray, List.set_cons_zero, List.set_cons_succ, i64_w, i32_w]
        rfl
       refine pure_ (i := 9) (N := some 21) (v := undef) (a' := ?_) #[true,true,true,true,true,true,true,true,true,true,false,false,false,false,false,false,false] rfl rfl (any_of HT_.out (by kernel_rfl)) (fun _ _ _ h => h) (Or.inr ⟨by rfl, rfl⟩) ?_ ?_
       rotate_left
       ·
        simp only [Act.put, List.setIfInBounds_toArray, List.set_cons_zero, List.set_cons_succ, i64_w, i32_w]
        rfl
       refine pure_ (i := 10) (N := some 22) (v := undef) (a' := ?_) #[true,true,true,true,true,true,true,true,true,true,true,false,false,false,false,false,false] rfl rfl (any_of HT_.out (by kernel_rfl)) (fun _ _ _ h => h) (Or.inr ⟨by rfl, rfl⟩) ?_ ?_
       rotate_left
       ·
        simp only [Act.put, List.setIfInBounds_toArray, List.set_cons_zero, List.set_cons_succ, i64_w, i32_w]
        rfl
       refine pure_ (i := 11) (N := some 23) (v := undef) (a' := ?_) #[true,true,true,true,true,true,true,true,true,true,true,true,false,false,false,false,false] rfl rfl (any_of HT_.out (by kernel_rfl)) (fun _ _ _ h => h) (Or.inr ⟨by rfl, rfl⟩) ?_ ?_
       rotate_left
       ·
        simp only [Act.put, List.setIfInBounds_toArray, List.set_cons_zero, List.set_cons_succ, i64_w, i32_w]
        rfl
       refine pure_ (i := 12) (N := some 24) (v := undef) (a' := ?_) #[true,true,true,true,true,true,true,true,true,true,true,true,true,false,false,false,false] rfl rfl (any_of HT_.out (by kernel_rfl)) (fun _ _ _ h => h) (Or.inr ⟨by rfl, rfl⟩) ?_ ?_
       rotate_left
       ·
        simp only [Act.put, List.setIfInBounds_toArray, List.set_cons_zero, List.set_cons_succ, i64_w, i32_w]
        rfl
       refine pure_ (i := 13) (N := some 25) (v := undef) (a' := ?_) #[true,true,true,true,true,true,true,true,true,true,true,true,true,true,false,false,false] rfl rfl (any_of HT_.out (by kernel_rfl)) (fun _ _ _ h => h) (Or.inr ⟨by rfl, rfl⟩) ?_ ?_
       rotate_left
       ·
        simp only [Act.put, List.setIfInBounds_toArray, List.set_cons_zero, List.set_cons_succ, i64_w, i32_w]
        rfl
       refine pure_ (i := 14) (N := some 26) (v := undef) (a' := ?_) #[true,true,true,true,true,true,true,true,true,true,true,true,true,true,true,false,false] rfl rfl (any_of HT_.out (by kernel_rfl)) (fun _ _ _ h => h) (Or.inr ⟨by rfl, rfl⟩) ?_ ?_
       rotate_left
       ·
        simp only [Act.put, List.setIfInBounds_toArray, List.set_cons_zero, List.set_cons_succ, i64_w, i32_w]
        rfl
       refine pure_ (i := 15) (N := some 27) (v := undef) (a' := ?_) #[true,true,true,true,true,true,true,true,true,true,true,true,true,true,true,true,false] rfl rfl (any_of HT_.out (by kernel_rfl)) (fun _ _ _ h => h) (Or.inr ⟨by rfl, rfl⟩) ?_ ?_
       rotate_left
       ·
        simp only [Act.put, List.setIfInBounds_toArray, List.set_cons_zero, List.set_cons_succ, i64_w, i32_w]
        rfl
       refine pure_ (i := 16) (N := some 28) (v := ?_) (a' := ?_) #[true,true,true,true,true,true,true,true,true,true,true,true,true,true,true,true,true] rfl rfl (any_of HT_.out (by kernel_rfl)) (fun _ _ _ h => h) (Or.inl ⟨by rfl, ?_⟩) ?_ ?_
       rotate_left
       ·
        intro w'
        go_simp
        with_reducible rfl
       rotate_left
       ·
        simp only [Act.put, List.setIfInBounds_toArray, List.set_cons_zero, List.set_cons_succ, i64_w, i32_w]
        rfl
       refine done_ (done_of HT_.out (by kernel_rfl)) ?_
       try go_wp2
       go_ret
       exact ⟨by first | rfl | (simp [errW_none, errW_some] <;> rfl) | (simp [*, errW_none, errW_some] <;> rfl), HB.out⟩
     ·
      rw [if_neg c4] at H
      exact absurd H (by simp)
    ·
     rw [if_neg c3] at H
     exact absurd H (by simp)
   ·
    rw [if_neg c2] at H
    have c2b0 : decide (x7_1 < (l0.length : Int)) = false := decide_eq_false c2
    clear c2
    obtain rfl := Option.some.inj H
    go_wp2
    go_ret
    exact ⟨by first | rfl | (simp [errW_none, errW_some] <;> rfl) | (simp [*, errW_none, errW_some] <;> rfl), HB.out⟩
end Go.Proofs.Ytjlbgopgeepiaaa.PConf
namespace Go.Proofs.Ytjlbgopgeepiaaa.PConf
open Go.RowKit Go.Proofs.YtjlbgopgeepiaaaW.PrintWords Go.Proofs.YtjlbgopgeepiaaaW.PrintLast Go.Proofs.YtjlbgopgeepiaaaW.PrintMore
attribute [local go_sem] max2_int min2_int max_two min_two max_three min_three max_four min_four plus_setCell_drewN plus_cell_same   -- for this text's walks alone
set_option linter.unusedVariables false
set_option linter.unusedSimpArgs false
def span_both.f (a0_0 : Int) (a0_1 : Int) (a0_2 : Int) (a1_0 : Int) (a1_1 : Int) (a1_2 : Int) : Option (Int × Int × Int) := if a0_0 = a1_0 then (some (a0_0, mx a0_1 a1_1, mn a0_2 a1_2)) else (some (0, 0, 0))
set_option maxHeartbeats 8000000 in
set_option maxRecDepth 100000 in
theorem span_both.calls (a0_0 : Int) (a0_1 : Int) (a0_2 : Int) (a1_0 : Int) (a1_1 : Int) (a1_2 : Int) (r1 : Int) (r2 : Int) (r3 : Int) (w : World) (h : span_both.f a0_0 a0_1 a0_2 a1_0 a1_1 a1_2 = some (r1, r2, r3)) :
  Calls Try.prog 50 #[.agg #[.int .i64 a0_0, .int .i64 a0_1, .int .i64 a0_2], .agg #[.int .i64 a1_0, .int .i64 a1_1, .int .i64 a1_2]] w fun e w' => e = .returned (.agg #[.int .i64 r1, .int .i64 r2, .int .i64 r3]) ∧ Below w.heap.size w w' := by
 have hu46 := Try.underlying46
 have HB := Aside0.mk (Below.refl w.heap.size w)
 have H : (if a0_0 = a1_0 then (some (a0_0, mx a0_1 a1_1, mn a0_2 a1_2)) else (some (0, 0, 0))) = some (r1, r2, r3) := h
 clear h
 by_cases c3 : a0_0 = a1_0
 ·
  rw [if_pos c3] at H
  have c3b0 : (a0_0 == a1_0) = true := beq_iff_eq.mpr c3
  have c3b1 : (a0_0 != a1_0) = false := bne_eq_false_iff_eq.mpr c3
  clear c3
  obtain ⟨ji4, hji4⟩ : ∃ j_ : Int, (mx a0_1 a1_1) = j_ := ⟨_, rfl⟩
  replace H : (some (a0_0, ji4, mn a0_2 a1_2)) = some (r1, r2, r3) := by first | (rw [hji4] at H; exact H) | (simp only [hji4] at H ⊢; exact H)
  have hji4_ : (if a0_1 < a1_1 then a1_1 else a0_1) = ji4 := hji4
  obtain ⟨ji5, hji5⟩ : ∃ j_ : Int, (mn a0_2 a1_2) = j_ := ⟨_, rfl⟩
  replace H : (some (a0_0, ji4, ji5)) = some (r1, r2, r3) := by first | (rw [hji5] at H; exact H) | (simp only [hji5] at H ⊢; exact H)
  have hji5_ : (if a1_2 < a0_2 then a1_2 else a0_2) = ji5 := hji5
  simp only [Option.some.injEq, Prod.mk.injEq] at H
  obtain ⟨rfl, rfl, rfl⟩ := H
  go_enter Try.func50, Try.ntmps50
  go_wp2_with (first | ((with_reducible refine gate_dst (N := 2) rfl ?_); refine box_event ?hg (N := 2) ?hd (cs := #[.int .i64 a0_0, .int .i64 a0_1, .int .i64 a0_2]) (t := 46) ?hr ?_; (case hd => rfl); (case hg => rfl); (case hr => first | (go_simp; done) | (go_simp; rfl)); intro gb109 hg w6 hbox hb; have BK109 := Aside0.mk (hbox); have GW109 := Aside0.mk ((by rw [hg]; exact (below_size (HB.out)) : w.heap.size ≤ gb109)); have GE109 := Aside0.mk ((by rw [hg]; exact (below_size (HB.out)) : w.heap.size ≤ gb109)); replace HB := Aside0.mk (below_step (HB.out) hb); clear hb hbox hg) | ((with_reducible refine gate_dst (N := 3) rfl ?_); refine box_event ?hg (N := 3) ?hd (cs := #[.int .i64 a1_0, .int .i64 a1_1, .int .i64 a1_2]) (t := 46) ?hr ?_; (case hd => rfl); (case hg => rfl); (case hr => first | (go_simp; done) | (go_simp; rfl)); intro gb110 hg w7 hbox hb; have BK110 := Aside0.mk (hbox); have GW110 := Aside0.mk ((by rw [hg]; exact (below_size (HB.out)) : w.heap.size ≤ gb110)); have GE110 := Aside0.mk ((by rw [hg]; exact (below_size (HB.out)) : w.heap.size ≤ gb110)); replace HB := Aside0.mk (below_step (HB.out) hb); have NB109_110 := Aside0.mk ((by rw [hg]; exact Nat.ne_of_lt (blk_lt (g := gb109) (o := .cells #[.int .i64 a0_0, .int .i64 a0_1, .int .i64 a0_2] 46 (0, 0)) (BK109.out)) : gb109 ≠ gb110)); have NB110_109 := Aside0.mk ((by rw [hg]; exact Nat.ne_of_gt (blk_lt (g := gb109) (o := .cells #[.int .i64 a0_0, .int .i64 a0_1, .int .i64 a0_2] 46 (0, 0)) (BK109.out)) : gb110 ≠ gb109)); replace BK109 := Aside0.mk (blk_below BK109.out hb); clear hb hbox hg) | ((with_reducible refine gate_dst (N := 4) rfl ?_); refine box_event ?hg (N := 4) ?hd (cs := #[.int .i64 0, .int .i64 0, .int .i64 0]) (t := 46) ?hr ?_; (case hd => rfl); (case hg => rfl); (case hr => first | (go_simp; done) | (go_simp; rfl)); intro gb111 hg w8 hbox hb; have BK111 := Aside0.mk (hbox); have GW111 := Aside0.mk ((by rw [hg]; exact (below_size (HB.out)) : w.heap.size ≤ gb111)); have GE111 := Aside0.mk ((by rw [hg]; exact (below_size (HB.out)) : w.heap.size ≤ gb111)); replace HB := Aside0.mk (below_step (HB.out) hb); have NB109_111 := Aside0.mk ((by rw [hg]; exact Nat.ne_of_lt (blk_lt (g := gb109) (o := .cells #[.int .i64 a0_0, .int .i64 a0_1, .int .i64 a0_2] 46 (0, 0)) (BK109.out)) : gb109 ≠ gb111)); have NB111_109 := Aside0.mk ((by rw [hg]; exact Nat.ne_of_gt (blk_lt (g := gb109) (o := .cells #[.int .i64 a0_0, .int .i64 a0_1, .int .i64 a0_2] 46 (0, 0)) (BK109.out)) : gb111 ≠ gb109)); replace BK109 := Aside0.mk (blk_below BK109.out hb); have NB110_111 := Aside0.mk ((by rw [hg]; exact Nat.ne_of_lt (blk_lt (g := gb110) (o := .cells #[.int .i64 a1_0, .int .i64 a1_1, .int .i64 a1_2] 46 (0, 0)) (BK110.out)) : gb110 ≠ gb111)); have NB111_110 := Aside0.mk ((by rw [hg]; exact Nat.ne_of_gt (blk_lt (g := gb110) (o := .cells #[.int .i64 a1_0, .int .i64 a1_1, .int .i64 a1_2] 46 (0, 0)) (BK110.out)) : gb111 ≠ gb110)); replace BK110 := Aside0.mk (blk_below BK110.out hb); clear hb hbox hg; have hnb9 := NB109_110.out; have hnc9 := NB110_109.out; have hnb10 := NB109_111.out; have hnc10 := NB111_109.out; obtain ⟨hcz11_0, hcz11_1, hcz11_2⟩ := blkc3 BK109.out; obtain ⟨hfz11_0, hfz11_1, hfz11_2⟩ := blkf3 BK109.out; have hnb12 := NB110_111.out; have hnc12 := NB111_110.out; obtain ⟨hcz13_0, hcz13_1, hcz13_2⟩ := blkc3 BK110.out; obtain ⟨hfz13_0, hfz13_1, hfz13_2⟩ := blkf3 BK110.out; obtain ⟨hcz14_0, hcz14_1, hcz14_2⟩ := blkc3 BK111.out; obtain ⟨hfz14_0, hfz14_1, hfz14_2⟩ := blkf3 BK111.out))
  refine bodyPost_ret (results_cell_row rfl _ _ gb111 46 #[.int .i64 a0_0, .int .i64 ji4, .int .i64 ji5] (0, 0) _ rfl (by (with_reducible repeat (first | refine blk_drewN ?_ _ | refine blk_drew ?_ | refine blk_alloc ?_ _)); refine blk_put (cs := #[.int .i64 a0_0, .int .i64 ji4, .int .i64 0]) ?_ 2 _ rfl; (with_reducible repeat (first | refine blk_drewN ?_ _ | refine blk_drew ?_ | refine blk_alloc ?_ _)); refine blk_put (cs := #[.int .i64 a0_0, .int .i64 0, .int .i64 0]) ?_ 1 _ rfl; (with_reducible repeat (first | refine blk_drewN ?_ _ | refine blk_drew ?_ | refine blk_alloc ?_ _)); refine blk_put (cs := #[.int .i64 0, .int .i64 0, .int .i64 0]) ?_ 0 _ rfl; (with_reducible repeat (first | refine blk_drewN ?_ _ | refine blk_drew ?_ | refine blk_alloc ?_ _)); exact BK111.out) Try.underlying46 rfl (by kernel_rfl)) rfl ?_
  exact ⟨by first | rfl | (simp [errW_none, errW_some] <;> rfl) | (simp only [← hji4, ← hji5]; first | rfl | (simp [errW_none, errW_some] <;> rfl)) | (simp [*, errW_none, errW_some] <;> rfl), by repeat (first | (with_reducible first | exact HB.out | apply below_alloc | apply pw_below_drewN | apply below_drew1 | refine below_set ?_ GE109.out | refine below_set ?_ GE110.out | refine below_set ?_ GE111.out) | exact HB.out)⟩
 ·
  rw [if_neg c3] at H
  have c3b0 : (a0_0 == a1_0) = false := beq_eq_false_iff_ne.mpr c3
  have c3b1 : (a0_0 != a1_0) = true := bne_iff_ne.mpr c3
  simp only [Option.some.injEq, Prod.mk.injEq] at H
  obtain ⟨rfl, rfl, rfl⟩ := H
  go_enter Try.func50, Try.ntmps50
  go_wp2_with (first | ((with_reducible refine gate_dst (N := 2) rfl ?_); refine box_event ?hg (N := 2) ?hd (cs := #[.int .i64 a0_0, .int .i64 a0_1, .int .i64 a0_2]) (t := 46) ?hr ?_; (case hd => rfl); (case hg => rfl); (case hr => first | (go_simp; done) | (go_simp; rfl)); intro gb109 hg w15 hbox hb; have BK109 := Aside0.mk (hbox); have GW109 := Aside0.mk ((by rw [hg]; exact (below_size (HB.out)) : w.heap.size ≤ gb109)); have GE109 := Aside0.mk ((by rw [hg]; exact (below_size (HB.out)) : w.heap.size ≤ gb109)); replace HB := Aside0.mk (below_step (HB.out) hb); clear hb hbox hg) | ((with_reducible refine gate_dst (N := 3) rfl ?_); refine box_event ?hg (N := 3) ?hd (cs := #[.int .i64 a1_0, .int .i64 a1_1, .int .i64 a1_2]) (t := 46) ?hr ?_; (case hd => rfl); (case hg => rfl); (case hr => first | (go_simp; done) | (go_simp; rfl)); intro gb110 hg w16 hbox hb; have BK110 := Aside0.mk (hbox); have GW110 := Aside0.mk ((by rw [hg]; exact (below_size (HB.out)) : w.heap.size ≤ gb110)); have GE110 := Aside0.mk ((by rw [hg]; exact (below_size (HB.out)) : w.heap.size ≤ gb110)); replace HB := Aside0.mk (below_step (HB.out) hb); have NB109_110 := Aside0.mk ((by rw [hg]; exact Nat.ne_of_lt (blk_lt (g := gb109) (o := .cells #[.int .i64 a0_0, .int .i64 a0_1, .int .i64 a0_2] 46 (0, 0)) (BK109.out)) : gb109 ≠ gb110)); have NB110_109 := Aside0.mk ((by rw [hg]; exact Nat.ne_of_gt (blk_lt (g := gb109) (o := .cells #[.int .i64 a0_0, .int .i64 a0_1, .int .i64 a0_2] 46 (0, 0)) (BK109.out)) : gb110 ≠ gb109)); replace BK109 := Aside0.mk (blk_below BK109.out hb); clear hb hbox hg) | ((with_reducible refine gate_dst (N := 4) rfl ?_); refine box_event ?hg (N := 4) ?hd (cs := #[.int .i64 0, .int .i64 0, .int .i64 0]) (t := 46) ?hr ?_; (case hd => rfl); (case hg => rfl); (case hr => first | (go_simp; done) | (go_simp; rfl)); intro gb111 hg w17 hbox hb; have BK111 := Aside0.mk (hbox); have GW111 := Aside0.mk ((by rw [hg]; exact (below_size (HB.out)) : w.heap.size ≤ gb111)); have GE111 := Aside0.mk ((by rw [hg]; exact (below_size (HB.out)) : w.heap.size ≤ gb111)); replace HB := Aside0.mk (below_step (HB.out) hb); have NB109_111 := Aside0.mk ((by rw [hg]; exact Nat.ne_of_lt (blk_lt (g := gb109) (o := .cells #[.int .i64 a0_0, .int .i64 a0_1, .int .i64 a0_2] 46 (0, 0)) (BK109.out)) : gb109 ≠ gb111)); have NB111_109 := Aside0.mk ((by rw [hg]; exact Nat.ne_of_gt (blk_lt (g := gb109) (o := .cells #[.int .i64 a0_0, .int .i64 a0_1, .int .i64 a0_2] 46 (0, 0)) (BK109.out)) : gb111 ≠ gb109)); replace BK109 := Aside0.mk (blk_below BK109.out hb); have NB110_111 := Aside0.mk ((by rw [hg]; exact Nat.ne_of_lt (blk_lt (g := gb110) (o := .cells #[.int .i64 a1_0, .int .i64 a1_1, .int .i64 a1_2] 46 (0, 0)) (BK110.out)) : gb110 ≠ gb111)); have NB111_110 := Aside0.mk ((by rw [hg]; exact Nat.ne_of_gt (blk_lt (g := gb110) (o := .cells #[.int .i64 a1_0, .int .i64 a1_1, .int .i64 a1_2] 46 (0, 0)) (BK110.out)) : gb111 ≠ gb110)); replace BK110 := Aside0.mk (blk_below BK110.out hb); clear hb hbox hg; have hnb18 := NB109_110.out; have hnc18 := NB110_109.out; have hnb19 := NB109_111.out; have hnc19 := NB111_109.out; obtain ⟨hcz20_0, hcz20_1, hcz20_2⟩ := blkc3 BK109.out; obtain ⟨hfz20_0, hfz20_1, hfz20_2⟩ := blkf3 BK109.out; have hnb21 := NB110_111.out; have hnc21 := NB111_110.out; obtain ⟨hcz22_0, hcz22_1, hcz22_2⟩ := blkc3 BK110.out; obtain ⟨hfz22_0, hfz22_1, hfz22_2⟩ := blkf3 BK110.out; obtain ⟨hcz23_0, hcz23_1, hcz23_2⟩ := blkc3 BK111.out; obtain ⟨hfz23_0, hfz23_1, hfz23_2⟩ := blkf3 BK111.out))
  refine bodyPost_ret (results_cell_row rfl _ _ gb111 46 #[.int .i64 0, .int .i64 0, .int .i64 0] (0, 0) _ rfl (by (with_reducible repeat (first | refine blk_drewN ?_ _ | refine blk_drew ?_ | refine blk_alloc ?_ _)); refine blk_put (cs := #[.int .i64 0, .int .i64 0, .int .i64 0]) ?_ 2 _ rfl; (with_reducible repeat (first | refine blk_drewN ?_ _ | refine blk_drew ?_ | refine blk_alloc ?_ _)); refine blk_put (cs := #[.int .i64 0, .int .i64 0, .int .i64 0]) ?_ 1 _ rfl; (with_reducible repeat (first | refine blk_drewN ?_ _ | refine blk_drew ?_ | refine blk_alloc ?_ _)); refine blk_put (cs := #[.int .i64 0, .int .i64 0, .int .i64 0]) ?_ 0 _ rfl; (with_reducible repeat (first | refine blk_drewN ?_ _ | refine blk_drew ?_ | refine blk_alloc ?_ _)); exact BK111.out) Try.underlying46 rfl (by kernel_rfl)) rfl ?_
  exact ⟨by first | rfl | (simp [errW_none, errW_some] <;> rfl) | (simp [*, errW_none, errW_some] <;> rfl), by repeat (first | (with_reducible first | exact HB.out | apply below_alloc | apply pw_below_drewN | apply below_drew1 | refine below_set ?_ GE109.out | refine below_set ?_ GE110.out | refine below_set ?_ GE111.out) | exact HB.out)⟩
end Go.Proofs.Ytjlbgopgeepiaaa.PConf
namespace Go.Proofs.Ytjlbgopgeepiaaa.PConf
open Go.RowKit Go.Proofs.YtjlbgopgeepiaaaW.PrintWords Go.Proofs.YtjlbgopgeepiaaaW.PrintLast Go.Proofs.YtjlbgopgeepiaaaW.PrintMore
attribute [local go_sem] max2_int min2_int max_two min_two max_three min_three max_four min_four plus_setCell_drewN plus_cell_same   -- for this text's walks alone
set_option linter.unusedVariables false
set_option linter.unusedSimpArgs false
def span_Meets.l0 : Nat → List (S46) → Int → Int → Int → Int → Int → Option (Bool)
 | 0, _, _, _, _, _, _ => none
 | k + 1, x7, x8, x9, x113000, x113001, x113002 => if x9 < x8 then (if 0 ≤ x9 then (if x9 < (x7.length : Int) then ((span_both.f ((rd_T46 x7 x9).f0) ((rd_T46 x7 x9).f1) ((rd_T46 x7 x9).f2) x113000 x113001 x113002).bind fun bt115 => ((span_Right.f bt115.1 bt115.2.1 bt115.2.2).bind fun t118 => (if t118 = true then (some true) else (span_Meets.l0 k x7 x8 (wrap64 (x9 + 1)) x113000 x113001 x113002)))) else (none)) else (none)) else (some false)
def span_Meets.f (k : Nat) (l0 : List (S46)) (a1_0 : Int) (a1_1 : Int) (a1_2 : Int) : Option (Bool) := span_Meets.l0 k l0 (l0.length : Int) 0 a1_0 a1_1 a1_2
theorem span_Meets.mono_l : ∀ k, (∀ y0 y1 y2 y3 y4 y5, LeO (span_Meets.l0 k y0 y1 y2 y3 y4 y5) (span_Meets.l0 (k + 1) y0 y1 y2 y3 y4 y5))
 | 0 => fun _ _ _ _ _ _ r h => by simp [span_Meets.l0] at h
 | k + 1 => by
  have ih0 := span_Meets.mono_l k
  ·
   intro y0 y1 y2 y3 y4 y5
   unfold span_Meets.l0
   repeat' first
   | (with_reducible exact ih0 _ _ _ _ _ _)
   | (with_reducible exact LeO.refl _)
   | (with_reducible exact LeO.none _)
   | (with_reducible refine LeO.ite ?_ ?_)
   | (with_reducible refine LeO.bind ?_ (fun _ => ?_))
   | exact ih0 _ _ _ _ _ _
   | exact LeO.none _
   | refine LeO.ite ?_ ?_
   | refine LeO.bind ?_ (fun _ => ?_)
theorem span_Meets.mono : ∀ a0 a1 a2 a3 k, LeO (span_Meets.f k a0 a1 a2 a3) (span_Meets.f (k + 1) a0 a1 a2 a3) := by
 intro a0 a1 a2 a3 k
 have ih0 := span_Meets.mono_l k
 unfold span_Meets.f
 repeat' first
   | (with_reducible exact ih0 _ _ _ _ _ _)
   | (with_reducible exact LeO.refl _)
   | (with_reducible exact LeO.none _)
   | (with_reducible refine LeO.ite ?_ ?_)
   | (with_reducible refine LeO.bind ?_ (fun _ => ?_))
   | exact ih0 _ _ _ _ _ _
   | exact LeO.none _
   | refine LeO.ite ?_ ?_
   | refine LeO.bind ?_ (fun _ => ?_)
set_option maxHeartbeats 8000000 in
set_option maxRecDepth 100000 in
theorem span_Meets.calls (k : Nat) (A0 : Option Addr) (c0 : Nat) (l0 : List (S46)) (a1_0 : Int) (a1_1 : Int) (a1_2 : Int) (r : Bool) (w : World) (hr0 : Kd.C k46 w A0 l0.length l0) (hc0 : l0.length ≤ c0) (h : span_Meets.f k l0 a1_0 a1_1 a1_2 = some r) :
  Calls Try.prog 36 #[.slice A0 l0.length c0, .agg #[.int .i64 a1_0, .int .i64 a1_1, .int .i64 a1_2]] w fun e w' => e = .returned (.bool r) ∧ Below w.heap.size w w' := by
 have hu46 := Try.underlying46
 have HR0 := Aside0.mk hr0
 have HC0 := Aside0.mk hc0
 clear hr0 hc0
 have HB := Aside0.mk (Below.refl w.heap.size w)
 have H : (span_Meets.l0 k l0 (l0.length : Int) 0 a1_0 a1_1 a1_2) = some r := h
 clear h
 have H' := Aside0.mk H
 clear H
 go_enter Try.func36, Try.ntmps36
 go_wp2_with (first | ((with_reducible refine gate_dst (N := 3) rfl ?_); refine box_event ?hg (N := 3) ?hd (cs := #[.int .i64 a1_0, .int .i64 a1_1, .int .i64 a1_2]) (t := 46) ?hr ?_; (case hd => rfl); (case hg => rfl); (case hr => first | (go_simp; done) | (go_simp; rfl)); intro gb112 hg w3 hbox hb; have BK112 := Aside0.mk (hbox); have GW112 := Aside0.mk ((by rw [hg]; exact (below_size (HB.out)) : w.heap.size ≤ gb112)); have GE112 := Aside0.mk ((by rw [hg]; exact (below_size (HB.out)) : w.heap.size ≤ gb112)); replace HB := Aside0.mk (below_step (HB.out) hb); clear hb hbox hg))
 go_loopg [9] k (fun kq v9 w' => ∃ (x9_1 : Int), v9 = .int .i64 x9_1 ∧ Aside0 (span_Meets.l0 kq l0 (l0.length : Int) x9_1 a1_0 a1_1 a1_2 = some r) ∧ Aside0 (kq ≤ k) ∧ Aside0 (w'.heap[gb112]? = some (.cells #[.int .i64 a1_0, .int .i64 a1_1, .int .i64 a1_2] 46 (0, 0))) ∧ Aside0 (Below w.heap.size w w'))
 case atStart => exact ⟨(0), (by first | rfl | (simp; done) | (simp [*]; done)), H', ⟨Nat.le_refl _⟩, ⟨BK112.out⟩, ⟨HB.out⟩⟩
 case round =>
  clear H'
  obtain ⟨x9_1, rfl, HA, HK1, BK112, HB⟩ := hrel
  cases gk with
  | zero => exact absurd HA.out (by simp [span_Meets.l0])
  | succ k1 =>
   have H := HA.out
   clear HA
   simp only [span_Meets.l0] at H
   by_cases c4 : x9_1 < (l0.length : Int)
   ·
    rw [if_pos c4] at H
    have c4b0 : decide (x9_1 < (l0.length : Int)) = true := decide_eq_true c4
    clear c4
    by_cases c5 : 0 ≤ x9_1
    ·
     rw [if_pos c5] at H
     have c5b0 : decide (0 ≤ x9_1) = true := decide_eq_true c5
     clear c5
     by_cases c6 : x9_1 < (l0.length : Int)
     ·
      rw [if_pos c6] at H
      have c6b0 : decide (x9_1 < (l0.length : Int)) = true := decide_eq_true c6
      clear c6
      replace H := Option.bind_eq_some_iff.mp H
      obtain ⟨⟨t115, t116, t117⟩, A70, H⟩ := H
      replace H : ((span_Right.f t115 t116 t117).bind fun t118 => (if t118 = true then (some true) else (span_Meets.l0 k1 l0 (l0.length : Int) (wrap64 (x9_1 + 1)) a1_0 a1_1 a1_2))) = some r := H
      have A7 := Aside0.mk A70
      clear A70
      replace H := Option.bind_eq_some_iff.mp H
      obtain ⟨t118, A80, H⟩ := H
      have A8 := Aside0.mk A80
      clear A80
      by_cases c9 : t118 = true
      ·
       subst c9
       have H1 : (some true) = some r := by rw [if_pos rfl] at H; exact H
       clear H
       have H := H1
       clear H1
       obtain rfl := Option.some.inj H
       have p113 : 0 ≤ (x9_1 : Int) := of_decide_eq_true (by first | (with_reducible assumption) | assumption)
       have q113 : x9_1 < (l0.length : Int) := of_decide_eq_true (by first | (with_reducible assumption) | assumption)
       obtain ⟨ad113, e113, hx113_0, hx113_1, hx113_2⟩ := at_T46 HR0.out x9_1 p113 q113
       cases e113
       replace hx113_0 := (HB.out.cell (World.block_lt_of_cell? w _ hx113_0)).trans hx113_0
       replace hx113_1 := (HB.out.cell (World.block_lt_of_cell? w _ hx113_1)).trans hx113_1
       replace hx113_2 := (HB.out.cell (World.block_lt_of_cell? w _ hx113_2)).trans hx113_2
       replace p113 := eq_true p113
       replace q113 := eq_true q113
       go_wp2_with (first | ((with_reducible refine gate_dst (N := 6) rfl ?_); refine box_event ?hg (N := 6) ?hd (cs := #[.int .i64 0, .int .i64 0, .int .i64 0]) (t := 46) ?hr ?_; (case hd => rfl); (case hg => rfl); (case hr => first | (go_simp; done) | (go_simp; rfl)); intro gb114 hg w10 hbox hb; have BK114 := Aside0.mk (hbox); have GW114 := Aside0.mk ((by rw [hg]; exact (below_size (HB.out)) : w.heap.size ≤ gb114)); have GE114 := Aside0.mk ((by rw [hg]; exact (below_size (HB.out)) : w.heap.size ≤ gb114)); replace HB := Aside0.mk (below_step (HB.out) hb); have NB112_114 := Aside0.mk ((by rw [hg]; exact Nat.ne_of_lt (blk_lt (g := gb112) (o := .cells #[.int .i64 a1_0, .int .i64 a1_1, .int .i64 a1_2] 46 (0, 0)) (BK112.out)) : gb112 ≠ gb114)); have NB114_112 := Aside0.mk ((by rw [hg]; exact Nat.ne_of_gt (blk_lt (g := gb112) (o := .cells #[.int .i64 a1_0, .int .i64 a1_1, .int .i64 a1_2] 46 (0, 0)) (BK112.out)) : gb114 ≠ gb112)); replace BK112 := Aside0.mk (blk_below BK112.out hb); clear hb hbox hg; have hnb11 := NB114_112.out; have hnc11 := NB112_114.out; obtain ⟨hcz12_0, hcz12_1, hcz12_2⟩ := blkc3 BK114.out; obtain ⟨hfz12_0, hfz12_1, hfz12_2⟩ := blkf3 BK114.out; obtain ⟨hcz13_0, hcz13_1, hcz13_2⟩ := blkc3 BK112.out; obtain ⟨hfz13_0, hfz13_1, hfz13_2⟩ := blkf3 BK112.out) | ((with_reducible refine gate_callee (f := 50) rfl ?_); refine goesL_ (some 15) rfl rfl Try.func50 (by kernel_rfl) rfl #[.agg #[.int .i64 ((rd_T46 l0 x9_1).f0), .int .i64 ((rd_T46 l0 x9_1).f1), .int .i64 ((rd_T46 l0 x9_1).f2)], .agg #[.int .i64 a1_0, .int .i64 a1_1, .int .i64 a1_2]] rfl (by (try simp only [List.map_toArray, List.map_cons, List.map_nil]); first | done | rfl | (simp only [List.length_drop, List.length_take]; rfl)) ?_; (with_reducible refine (span_both.calls ((rd_T46 l0 x9_1).f0) ((rd_T46 l0 x9_1).f1) ((rd_T46 l0 x9_1).f2) a1_0 a1_1 a1_2 t115 t116 t117 _ A7.out).mono ?_); rintro e w14 ⟨rfl, hb⟩; refine ⟨_, rfl, ?_⟩; replace BK112 := Aside0.mk (blk_below (g := gb112) (o := .cells #[.int .i64 a1_0, .int .i64 a1_1, .int .i64 a1_2] 46 (0, 0)) (by (with_reducible repeat (first | refine blk_drewN ?_ _ | refine blk_drew ?_ | refine blk_alloc ?_ _)); refine blk_far ?_ NB112_114.out _; (with_reducible repeat (first | refine blk_drewN ?_ _ | refine blk_drew ?_ | refine blk_alloc ?_ _)); refine blk_far ?_ NB112_114.out _; (with_reducible repeat (first | refine blk_drewN ?_ _ | refine blk_drew ?_ | refine blk_alloc ?_ _)); refine blk_far ?_ NB112_114.out _; (with_reducible repeat (first | refine blk_drewN ?_ _ | refine blk_drew ?_ | refine blk_alloc ?_ _)); exact BK112.out) hb); replace BK114 := Aside0.mk (blk_below (g := gb114) (o := .cells #[.int .i64 ((rd_T46 l0 x9_1).f0), .int .i64 ((rd_T46 l0 x9_1).f1), .int .i64 ((rd_T46 l0 x9_1).f2)] 46 (0, 0)) (by (with_reducible repeat (first | refine blk_drewN ?_ _ | refine blk_drew ?_ | refine blk_alloc ?_ _)); refine blk_put (cs := #[.int .i64 ((rd_T46 l0 x9_1).f0), .int .i64 ((rd_T46 l0 x9_1).f1), .int .i64 0]) ?_ 2 _ rfl; (with_reducible repeat (first | refine blk_drewN ?_ _ | refine blk_drew ?_ | refine blk_alloc ?_ _)); refine blk_put (cs := #[.int .i64 ((rd_T46 l0 x9_1).f0), .int .i64 0, .int .i64 0]) ?_ 1 _ rfl; (with_reducible repeat (first | refine blk_drewN ?_ _ | refine blk_drew ?_ | refine blk_alloc ?_ _)); refine blk_put (cs := #[.int .i64 0, .int .i64 0, .int .i64 0]) ?_ 0 _ rfl; (with_reducible repeat (first | refine blk_drewN ?_ _ | refine blk_drew ?_ | refine blk_alloc ?_ _)); exact BK114.out) hb); replace HB := Aside0.mk (below_step (by repeat (first | (with_reducible first | exact HB.out | apply below_alloc | apply pw_below_drewN | apply below_drew1 | refine below_set ?_ GE112.out | refine below_set ?_ GE114.out) | exact HB.out)) hb); (try clear hb); (try clear hi)) | ((with_reducible refine gate_callee (f := 48) rfl ?_); refine goesL_ (some 16) rfl rfl Try.func48 (by kernel_rfl) rfl #[.agg #[.int .i64 t115, .int .i64 t116, .int .i64 t117]] rfl (by (try simp only [List.map_toArray, List.map_cons, List.map_nil]); first | done | rfl | (simp only [List.length_drop, List.length_take]; rfl)) ?_; (with_reducible refine (span_Right.calls t115 t116 t117 true _ A8.out).mono ?_); rintro e w15 ⟨rfl, hb⟩; refine ⟨_, rfl, ?_⟩; replace BK112 := Aside0.mk (blk_below BK112.out hb); replace BK114 := Aside0.mk (blk_below BK114.out hb); replace HB := Aside0.mk (below_step (HB.out) hb); (try clear hb); (try clear hi)))
       go_ret
       exact ⟨by first | rfl | (simp [errW_none, errW_some] <;> rfl) | (simp [*, errW_none, errW_some] <;> rfl), HB.out⟩
      ·
       replace c9 := Bool.eq_false_iff.mpr c9
       subst c9
       have H1 : (span_Meets.l0 k1 l0 (l0.length : Int) (wrap64 (x9_1 + 1)) a1_0 a1_1 a1_2) = some r := by rw [if_neg (show ¬ (false = true) by decide)] at H; exact H
       clear H
       have H := H1
       clear H1
       have H' := Aside0.mk H
       clear H
       have p113 : 0 ≤ (x9_1 : Int) := of_decide_eq_true (by first | (with_reducible assumption) | assumption)
       have q113 : x9_1 < (l0.length : Int) := of_decide_eq_true (by first | (with_reducible assumption) | assumption)
       obtain ⟨ad113, e113, hx113_0, hx113_1, hx113_2⟩ := at_T46 HR0.out x9_1 p113 q113
       cases e113
       replace hx113_0 := (HB.out.cell (World.block_lt_of_cell? w _ hx113_0)).trans hx113_0
       replace hx113_1 := (HB.out.cell (World.block_lt_of_cell? w _ hx113_1)).trans hx113_1
       replace hx113_2 := (HB.out.cell (World.block_lt_of_cell? w _ hx113_2)).trans hx113_2
       replace p113 := eq_true p113
       replace q113 := eq_true q113
       go_wp2_with (first | ((with_reducible refine gate_dst (N := 6) rfl ?_); refine box_event ?hg (N := 6) ?hd (cs := #[.int .i64 0, .int .i64 0, .int .i64 0]) (t := 46) ?hr ?_; (case hd => rfl); (case hg => rfl); (case hr => first | (go_simp; done) | (go_simp; rfl)); intro gb114 hg w16 hbox hb; have BK114 := Aside0.mk (hbox); have GW114 := Aside0.mk ((by rw [hg]; exact (below_size (HB.out)) : w.heap.size ≤ gb114)); have GE114 := Aside0.mk ((by rw [hg]; exact (below_size (HB.out)) : w.heap.size ≤ gb114)); replace HB := Aside0.mk (below_step (HB.out) hb); have NB112_114 := Aside0.mk ((by rw [hg]; exact Nat.ne_of_lt (blk_lt (g := gb112) (o := .cells #[.int .i64 a1_0, .int .i64 a1_1, .int .i64 a1_2] 46 (0, 0)) (BK112.out)) : gb112 ≠ gb114)); have NB114_112 := Aside0.mk ((by rw [hg]; exact Nat.ne_of_gt (blk_lt (g := gb112) (o := .cells #[.int .i64 a1_0, .int .i64 a1_1, .int .i64 a1_2] 46 (0, 0)) (BK112.out)) : gb114 ≠ gb112)); replace BK112 := Aside0.mk (blk_below BK112.out hb); clear hb hbox hg; have hnb17 := NB114_112.out; have hnc17 := NB112_114.out; obtain ⟨hcz18_0, hcz18_1, hcz18_2⟩ := blkc3 BK114.out; obtain ⟨hfz18_0, hfz18_1, hfz18_2⟩ := blkf3 BK114.out; obtain ⟨hcz19_0, hcz19_1, hcz19_2⟩ := blkc3 BK112.out; obtain ⟨hfz19_0, hfz19_1, hfz19_2⟩ := blkf3 BK112.out) | ((with_reducible refine gate_callee (f := 50) rfl ?_); refine goesL_ (some 15) rfl rfl Try.func50 (by kernel_rfl) rfl #[.agg #[.int .i64 ((rd_T46 l0 x9_1).f0), .int .i64 ((rd_T46 l0 x9_1).f1), .int .i64 ((rd_T46 l0 x9_1).f2)], .agg #[.int .i64 a1_0, .int .i64 a1_1, .int .i64 a1_2]] rfl (by (try simp only [List.map_toArray, List.map_cons, List.map_nil]); first | done | rfl | (simp only [List.length_drop, List.length_take]; rfl)) ?_; (with_reducible refine (span_both.calls ((rd_T46 l0 x9_1).f0) ((rd_T46 l0 x9_1).f1) ((rd_T46 l0 x9_1).f2) a1_0 a1_1 a1_2 t115 t116 t117 _ A7.out).mono ?_); rintro e w20 ⟨rfl, hb⟩; refine ⟨_, rfl, ?_⟩; replace BK112 := Aside0.mk (blk_below (g := gb112) (o := .cells #[.int .i64 a1_0, .int .i64 a1_1, .int .i64 a1_2] 46 (0, 0)) (by (with_reducible repeat (first | refine blk_drewN ?_ _ | refine blk_drew ?_ | refine blk_alloc ?_ _)); refine blk_far ?_ NB112_114.out _; (with_reducible repeat (first | refine blk_drewN ?_ _ | refine blk_drew ?_ | refine blk_alloc ?_ _)); refine blk_far ?_ NB112_114.out _; (with_reducible repeat (first | refine blk_drewN ?_ _ | refine blk_drew ?_ | refine blk_alloc ?_ _)); refine blk_far ?_ NB112_114.out _; (with_reducible repeat (first | refine blk_drewN ?_ _ | refine blk_drew ?_ | refine blk_alloc ?_ _)); exact BK112.out) hb); replace BK114 := Aside0.mk (blk_below (g := gb114) (o := .cells #[.int .i64 ((rd_T46 l0 x9_1).f0), .int .i64 ((rd_T46 l0 x9_1).f1), .int .i64 ((rd_T46 l0 x9_1).f2)] 46 (0, 0)) (by (with_reducible repeat (first | refine blk_drewN ?_ _ | refine blk_drew ?_ | refine blk_alloc ?_ _)); refine blk_put (cs := #[.int .i64 ((rd_T46 l0 x9_1).f0), .int .i64 ((rd_T46 l0 x9_1).f1), .int .i64 0]) ?_ 2 _ rfl; (with_reducible repeat (first | refine blk_drewN ?_ _ | refine blk_drew ?_ | refine blk_alloc ?_ _)); refine blk_put (cs := #[.int .i64 ((rd_T46 l0 x9_1).f0), .int .i64 0, .int .i64 0]) ?_ 1 _ rfl; (with_reducible repeat (first | refine blk_drewN ?_ _ | refine blk_drew ?_ | refine blk_alloc ?_ _)); refine blk_put (cs := #[.int .i64 0, .int .i64 0, .int .i64 0]) ?_ 0 _ rfl; (with_reducible repeat (first | refine blk_drewN ?_ _ | refine blk_drew ?_ | refine blk_alloc ?_ _)); exact BK114.out) hb); replace HB := Aside0.mk (below_step (by repeat (first | (with_reducible first | exact HB.out | apply below_alloc | apply pw_below_drewN | apply below_drew1 | refine below_set ?_ GE112.out | refine below_set ?_ GE114.out) | exact HB.out)) hb); (try clear hb); (try clear hi)) | ((with_reducible refine gate_callee (f := 48) rfl ?_); refine goesL_ (some 16) rfl rfl Try.func48 (by kernel_rfl) rfl #[.agg #[.int .i64 t115, .int .i64 t116, .int .i64 t117]] rfl (by (try simp only [List.map_toArray, List.map_cons, List.map_nil]); first | done | rfl | (simp only [List.length_drop, List.length_take]; rfl)) ?_; (with_reducible refine (span_Right.calls t115 t116 t117 false _ A8.out).mono ?_); rintro e w21 ⟨rfl, hb⟩; refine ⟨_, rfl, ?_⟩; replace BK112 := Aside0.mk (blk_below BK112.out hb); replace BK114 := Aside0.mk (blk_below BK114.out hb); replace HB := Aside0.mk (below_step (HB.out) hb); (try clear hb); (try clear hi)))
       go_roundg k1
       case measure => have := HK1.out; omega
       case rel => exact ⟨(wrap64 (x9_1 + 1)), (by first | rfl | (simp; done) | (simp [*]; done)), H', ⟨by have := HK1.out; omega⟩, ⟨BK112.out⟩, ⟨HB.out⟩⟩
     ·
      rw [if_neg c6] at H
      exact absurd H (by simp)
    ·
     rw [if_neg c5] at H
     exact absurd H (by simp)
   ·
    rw [if_neg c4] at H
    have c4b0 : decide (x9_1 < (l0.length : Int)) = false := decide_eq_false c4
    clear c4
    obtain rfl := Option.some.inj H
    go_wp2
    go_ret
    exact ⟨by first | rfl | (simp [errW_none, errW_some] <;> rfl) | (simp [*, errW_none, errW_some] <;> rfl), HB.out⟩
end Go.Proofs.Ytjlbgopgeepiaaa.PConf
namespace Go.Proofs.Ytjlbgopgeepiaaa.PConf
open Go.RowKit Go.Proofs.YtjlbgopgeepiaaaW.PrintWords Go.Proofs.YtjlbgopgeepiaaaW.PrintLast Go.Proofs.YtjlbgopgeepiaaaW.PrintMore
attribute [local go_sem] max2_int min2_int max_two min_two max_three min_three max_four min_four plus_setCell_drewN plus_cell_same   -- for this text's walks alone
set_option linter.unusedVariables false
set_option linter.unusedSimpArgs false
def plan_control.f (a0 : Int) : Option (Int × Int × Int) := some (2, a0, wrap64 (a0 + 8))
set_option maxHeartbeats 8000000 in
set_option maxRecDepth 100000 in
theorem plan_control.calls (a0 : Int) (r1 : Int) (r2 : Int) (r3 : Int) (w : World) (h : plan_control.f a0 = some (r1, r2, r3)) :
  Calls Try.prog 37 #[.int .i64 a0] w fun e w' => e = .returned (.agg #[.int .i64 r1, .int .i64 r2, .int .i64 r3]) ∧ Below w.heap.size w w' := by
 have hu46 := Try.underlying46
 have HB := Aside0.mk (Below.refl w.heap.size w)
 have H : (some (2, a0, wrap64 (a0 + 8))) = some (r1, r2, r3) := h
 clear h
 simp only [Option.some.injEq, Prod.mk.injEq] at H
 obtain ⟨rfl, rfl, rfl⟩ := H
 go_enter Try.func37, Try.ntmps37
 go_wp2_with (first | ((with_reducible refine gate_dst (N := 2) rfl ?_); refine box_event ?hg (N := 2) ?hd (cs := #[.int .i64 0, .int .i64 0, .int .i64 0]) (t := 46) ?hr ?_; (case hd => rfl); (case hg => rfl); (case hr => first | (go_simp; done) | (go_simp; rfl)); intro gb119 hg w2 hbox hb; have BK119 := Aside0.mk (hbox); have GW119 := Aside0.mk ((by rw [hg]; exact (below_size (HB.out)) : w.heap.size ≤ gb119)); have GE119 := Aside0.mk ((by rw [hg]; exact (below_size (HB.out)) : w.heap.size ≤ gb119)); replace HB := Aside0.mk (below_step (HB.out) hb); clear hb hbox hg; obtain ⟨hcz3_0, hcz3_1, hcz3_2⟩ := blkc3 BK119.out; obtain ⟨hfz3_0, hfz3_1, hfz3_2⟩ := blkf3 BK119.out))
 refine bodyPost_ret (results_cell_row rfl _ _ gb119 46 #[.int .i64 2, .int .i64 a0, .int .i64 (wrap64 (a0 + 8))] (0, 0) _ rfl (by (with_reducible repeat (first | refine blk_drewN ?_ _ | refine blk_drew ?_ | refine blk_alloc ?_ _)); refine blk_put (cs := #[.int .i64 2, .int .i64 a0, .int .i64 0]) ?_ 2 _ rfl; (with_reducible repeat (first | refine blk_drewN ?_ _ | refine blk_drew ?_ | refine blk_alloc ?_ _)); refine blk_put (cs := #[.int .i64 2, .int .i64 0, .int .i64 0]) ?_ 1 _ rfl; (with_reducible repeat (first | refine blk_drewN ?_ _ | refine blk_drew ?_ | refine blk_alloc ?_ _)); refine blk_put (cs := #[.int .i64 0, .int .i64 0, .int .i64 0]) ?_ 0 _ rfl; (with_reducible repeat (first | refine blk_drewN ?_ _ | refine blk_drew ?_ | refine blk_alloc ?_ _)); exact BK119.out) Try.underlying46 rfl (by kernel_rfl)) rfl ?_
 exact ⟨by first | rfl | (simp [errW_none, errW_some] <;> rfl) | (simp [*, errW_none, errW_some] <;> rfl), by repeat (first | (with_reducible first | exact HB.out | apply below_alloc | apply pw_below_drewN | apply below_drew1 | refine below_set ?_ GE119.out) | exact HB.out)⟩
end Go.Proofs.Ytjlbgopgeepiaaa.PConf
namespace Go.Proofs.Ytjlbgopgeepiaaa.PConf
open Go.RowKit Go.Proofs.YtjlbgopgeepiaaaW.PrintWords Go.Proofs.YtjlbgopgeepiaaaW.PrintLast Go.Proofs.YtjlbgopgeepiaaaW.PrintMore
attribute [local go_sem] max2_int min2_int max_two min_two max_three min_three max_four min_four plus_setCell_drewN plus_cell_same   -- for this text's walks alone
set_option linter.unusedVariables false
set_option linter.unusedSimpArgs false
def plan_Check.j0 : Nat → List (S46) → Int → Bool → Option (Int)
 | 0, _, _, _ => none
 | k + 1, x0, x1, x5 => if x5 = true then (some 1) else ((span_Canon.f k x0).bind fun t120 => (if t120 = true then ((plan_control.f x1).bind fun bt121 => ((span_Meets.f k x0 bt121.1 bt121.2.1 bt121.2.2).bind fun t124 => (if t124 = true then (some 6) else (some 0)))) else (some 2)))
def plan_Check.f (k : Nat) (l0 : List (S46)) (a1 : Int) : Option (Int) := if a1 < 0 then (plan_Check.j0 k l0 a1 true) else (plan_Check.j0 k l0 a1 (decide (a1 > 65528)))
theorem plan_Check.mono_l : ∀ k, (∀ y0 y1 y2, LeO (plan_Check.j0 k y0 y1 y2) (plan_Check.j0 (k + 1) y0 y1 y2))
 | 0 => fun _ _ _ r h => by simp [plan_Check.j0] at h
 | k + 1 => by
  have ih0 := plan_Check.mono_l k
  ·
   intro y0 y1 y2
   unfold plan_Check.j0
   repeat' first
   | (with_reducible exact ih0 _ _ _)
   | (with_reducible exact span_Canon.mono _ _)
   | (with_reducible exact span_Meets.mono _ _ _ _ _)
   | (with_reducible exact LeO.refl _)
   | (with_reducible exact LeO.none _)
   | (with_reducible refine LeO.ite ?_ ?_)
   | (with_reducible refine LeO.bind ?_ (fun _ => ?_))
   | exact ih0 _ _ _
   | exact span_Canon.mono _ _
   | exact span_Meets.mono _ _ _ _ _
   | exact LeO.none _
   | refine LeO.ite ?_ ?_
   | refine LeO.bind ?_ (fun _ => ?_)
theorem plan_Check.mono : ∀ a0 a1 k, LeO (plan_Check.f k a0 a1) (plan_Check.f (k + 1) a0 a1) := by
 intro a0 a1 k
 have ih0 := plan_Check.mono_l k
 unfold plan_Check.f
 repeat' first
   | (with_reducible exact ih0 _ _ _)
   | (with_reducible exact span_Canon.mono _ _)
   | (with_reducible exact span_Meets.mono _ _ _ _ _)
   | (with_reducible exact LeO.refl _)
   | (with_reducible exact LeO.none _)
   | (with_reducible refine LeO.ite ?_ ?_)
   | (with_reducible refine LeO.bind ?_ (fun _ => ?_))
   | exact ih0 _ _ _
   | exact span_Canon.mono _ _
   | exact span_Meets.mono _ _ _ _ _
   | exact LeO.none _
   | refine LeO.ite ?_ ?_
   | refine LeO.bind ?_ (fun _ => ?_)
set_option maxHeartbeats 8000000 in
set_option maxRecDepth 100000 in
theorem plan_Check.calls (k : Nat) (A0 : Option Addr) (c0 : Nat) (l0 : List (S46)) (a1 : Int) (r : Int) (w : World) (hr0 : Kd.C k46 w A0 l0.length l0) (hc0 : l0.length ≤ c0) (h : plan_Check.f k l0 a1 = some r) :
  Calls Try.prog 20 #[.slice A0 l0.length c0, .int .i64 a1] w fun e w' => e = .returned (.int .i64 r) ∧ Below w.heap.size w w' := by
 have HR0 := Aside0.mk hr0
 have HC0 := Aside0.mk hc0
 clear hr0 hc0
 have HB := Aside0.mk (Below.refl w.heap.size w)
 have H : (if a1 < 0 then (plan_Check.j0 k l0 a1 true) else (plan_Check.j0 k l0 a1 (decide (a1 > 65528)))) = some r := h
 clear h
 have HC3 := Aside0.mk H
 clear H
 go_enter Try.func20, Try.ntmps20
 go_upto_region 1 with (fail)
 go_cut [5] (fun v5 wc => ∃ (kq : Nat) (x5_2 : Bool), v5 = .bool x5_2 ∧ Aside0 (plan_Check.j0 kq l0 a1 x5_2 = some r) ∧ Aside0 (kq ≤ k) ∧ Aside0 (Below w.heap.size w wc))
 case first =>
  have H := HC3.out
  clear HC3
  by_cases c4 : a1 < 0
  ·
   rw [if_pos c4] at H
   have c4b0 : decide (a1 < 0) = true := decide_eq_true c4
   clear c4
   (first | rw [c4b0] | (simp only [i64_w, i32_w]; rw [c4b0]) | skip)
   have H' := Aside0.mk H
   clear H
   go_wp2
   go_meet
   case rel => exact ⟨_, (true), (by first | rfl | (simp; done) | (simp [*]; done)), H', ⟨by first | omega | exact Nat.le_refl _⟩, ⟨HB.out⟩⟩
  ·
   rw [if_neg c4] at H
   have c4b0 : decide (a1 < 0) = false := decide_eq_false c4
   clear c4
   (first | rw [c4b0] | (simp only [i64_w, i32_w]; rw [c4b0]) | skip)
   have H' := Aside0.mk H
   clear H
   go_wp2
   go_meet
   case rel => exact ⟨_, (decide (a1 > 65528)), (by first | rfl | (simp; done) | (simp [*]; done)), H', ⟨by first | omega | exact Nat.le_refl _⟩, ⟨HB.out⟩⟩
 case rest =>
  clear HC3
  obtain ⟨kq, x5_2, rfl, HA, HJ2, HB⟩ := hcut
  cases kq with
  | zero => exact absurd HA.out (by simp [plan_Check.j0])
  | succ kj2 =>
   have H := HA.out
   clear HA
   simp only [plan_Check.j0] at H
   by_cases c5 : x5_2 = true
   ·
    subst c5
    have H1 : (some 1) = some r := by rw [if_pos rfl] at H; exact H
    clear H
    have H := H1
    clear H1
    obtain rfl := Option.some.inj H
    go_wp2
    go_ret
    exact ⟨by first | rfl | (simp [errW_none, errW_some] <;> rfl) | (simp [*, errW_none, errW_some] <;> rfl), HB.out⟩
   ·
    replace c5 := Bool.eq_false_iff.mpr c5
    subst c5
    have H1 : ((span_Canon.f kj2 l0).bind fun t120 => (if t120 = true then ((plan_control.f a1).bind fun bt121 => ((span_Meets.f kj2 l0 bt121.1 bt121.2.1 bt121.2.2).bind fun t124 => (if t124 = true then (some 6) else (some 0)))) else (some 2))) = some r := by rw [if_neg (show ¬ (false = true) by decide)] at H; exact H
    clear H
    have H := H1
    clear H1
    replace H := Option.bind_eq_some_iff.mp H
    obtain ⟨t120, A60, H⟩ := H
    have A6 := Aside0.mk A60
    clear A60
    by_cases c7 : t120 = true
    ·
     subst c7
     have H1 : ((plan_control.f a1).bind fun bt121 => ((span_Meets.f kj2 l0 bt121.1 bt121.2.1 bt121.2.2).bind fun t124 => (if t124 = true then (some 6) else (some 0)))) = some r := by rw [if_pos rfl] at H; exact H
     clear H
     have H := H1
     clear H1
     replace H := Option.bind_eq_some_iff.mp H
     obtain ⟨⟨t121, t122, t123⟩, A80, H⟩ := H
     replace H : ((span_Meets.f kj2 l0 t121 t122 t123).bind fun t124 => (if t124 = true then (some 6) else (some 0))) = some r := H
     have A8 := Aside0.mk A80
     clear A80
     replace H := Option.bind_eq_some_iff.mp H
     obtain ⟨t124, A90, H⟩ := H
     have A9 := Aside0.mk A90
     clear A90
     by_cases c10 : t124 = true
     ·
      subst c10
      have H1 : (some 6) = some r := by rw [if_pos rfl] at H; exact H
      clear H
      have H := H1
      clear H1
      obtain rfl := Option.some.inj H
      go_wp2_with (first | ((with_reducible refine gate_callee (f := 35) rfl ?_); refine goesL_ (some 14) rfl rfl Try.func35 (by kernel_rfl) rfl #[.slice A0 l0.length c0] rfl (by (try simp only [List.map_toArray, List.map_cons, List.map_nil]); first | done | rfl | (simp only [List.length_drop, List.length_take]; rfl)) ?_; (with_reducible refine (span_Canon.calls kj2 _ _ l0 true _ ?side1 ?side2 A6.out).mono ?_); (case side1 => repeat (first | exact (Kd.C_below HR0.out HB.out) | (with_reducible refine Kd.C_alloc ?_ _) | (with_reducible refine Kd.C_drewN ?_ _) | (with_reducible refine Kd.C_drew ?_))); (case side2 => exact HC0.out); rintro e w11 ⟨rfl, hb⟩; refine ⟨_, rfl, ?_⟩; replace HB := Aside0.mk (below_step (HB.out) hb); (try clear hb); (try clear hi)) | ((with_reducible refine gate_callee (f := 37) rfl ?_); refine goesL_ (some 19) rfl rfl Try.func37 (by kernel_rfl) rfl #[.int .i64 a1] rfl (by (try simp only [List.map_toArray, List.map_cons, List.map_nil]); first | done | rfl | (simp only [List.length_drop, List.length_take]; rfl)) ?_; (with_reducible refine (plan_control.calls a1 t121 t122 t123 _ A8.out).mono ?_); rintro e w12 ⟨rfl, hb⟩; refine ⟨_, rfl, ?_⟩; replace HB := Aside0.mk (below_step (HB.out) hb); (try clear hb); (try clear hi)) | ((with_reducible refine gate_callee (f := 36) rfl ?_); refine goesL_ (some 20) rfl rfl Try.func36 (by kernel_rfl) rfl #[.slice A0 l0.length c0, .agg #[.int .i64 t121, .int .i64 t122, .int .i64 t123]] rfl (by (try simp only [List.map_toArray, List.map_cons, List.map_nil]); first | done | rfl | (simp only [List.length_drop, List.length_take]; rfl)) ?_; (with_reducible refine (span_Meets.calls kj2 _ _ l0 t121 t122 t123 true _ ?side1 ?side2 A9.out).mono ?_); (case side1 => repeat (first | exact (Kd.C_below HR0.out HB.out) | (with_reducible refine Kd.C_alloc ?_ _) | (with_reducible refine Kd.C_drewN ?_ _) | (with_reducible refine Kd.C_drew ?_))); (case side2 => exact HC0.out); rintro e w13 ⟨rfl, hb⟩; refine ⟨_, rfl, ?_⟩; replace HB := Aside0.mk (below_step (HB.out) hb); (try clear hb); (try clear hi)))
      go_ret
      exact ⟨by first | rfl | (simp [errW_none, errW_some] <;> rfl) | (simp [*, errW_none, errW_some] <;> rfl), HB.out⟩
     ·
      replace c10 := Bool.eq_false_iff.mpr c10
      subst c10
      have H1 : (some 0) = some r := by rw [if_neg (show ¬ (false = true) by decide)] at H; exact H
      clear H
      have H := H1
      clear H1
      obtain rfl := Option.some.inj H
      go_wp2_with (first | ((with_reducible refine gate_callee (f := 35) rfl ?_); refine goesL_ (some 14) rfl rfl Try.func35 (by kernel_rfl) rfl #[.slice A0 l0.length c0] rfl (by (try simp only [List.map_toArray, List.map_cons, List.map_nil]); first | done | rfl | (simp only [List.length_drop, List.length_take]; rfl)) ?_; (with_reducible refine (span_Canon.calls kj2 _ _ l0 true _ ?side1 ?side2 A6.out).mono ?_); (case side1 => repeat (first | exact (Kd.C_below HR0.out HB.out) | (with_reducible refine Kd.C_alloc ?_ _) | (with_reducible refine Kd.C_drewN ?_ _) | (with_reducible refine Kd.C_drew ?_))); (case side2 => exact HC0.out); rintro e w14 ⟨rfl, hb⟩; refine ⟨_, rfl, ?_⟩; replace HB := Aside0.mk (below_step (HB.out) hb); (try clear hb); (try clear hi)) | ((with_reducible refine gate_callee (f := 37) rfl ?_); refine goesL_ (some 19) rfl rfl Try.func37 (by kernel_rfl) rfl #[.int .i64 a1] rfl (by (try simp only [List.map_toArray, List.map_cons, List.map_nil]); first | done | rfl | (simp only [List.length_drop, List.length_take]; rfl)) ?_; (with_reducible refine (plan_control.calls a1 t121 t122 t123 _ A8.out).mono ?_); rintro e w15 ⟨rfl, hb⟩; refine ⟨_, rfl, ?_⟩; replace HB := Aside0.mk (below_step (HB.out) hb); (try clear hb); (try clear hi)) | ((with_reducible refine gate_callee (f := 36) rfl ?_); refine goesL_ (some 20) rfl rfl Try.func36 (by kernel_rfl) rfl #[.slice A0 l0.length c0, .agg #[.int .i64 t121, .int .i64 t122, .int .i64 t123]] rfl (by (try simp only [List.map_toArray, List.map_cons, List.map_nil]); first | done | rfl | (simp only [List.length_drop, List.length_take]; rfl)) ?_; (with_reducible refine (span_Meets.calls kj2 _ _ l0 t121 t122 t123 false _ ?side1 ?side2 A9.out).mono ?_); (case side1 => repeat (first | exact (Kd.C_below HR0.out HB.out) | (with_reducible refine Kd.C_alloc ?_ _) | (with_reducible refine Kd.C_drewN ?_ _) | (with_reducible refine Kd.C_drew ?_))); (case side2 => exact HC0.out); rintro e w16 ⟨rfl, hb⟩; refine ⟨_, rfl, ?_⟩; replace HB := Aside0.mk (below_step (HB.out) hb); (try clear hb); (try clear hi)))
      go_ret
      exact ⟨by first | rfl | (simp [errW_none, errW_some] <;> rfl) | (simp [*, errW_none, errW_some] <;> rfl), HB.out⟩
    ·
     replace c7 := Bool.eq_false_iff.mpr c7
     subst c7
     have H1 : (some 2) = some r := by rw [if_neg (show ¬ (false = true) by decide)] at H; exact H
     clear H
     have H := H1
     clear H1
     obtain rfl := Option.some.inj H
     go_wp2_with (first | ((with_reducible refine gate_callee (f := 35) rfl ?_); refine goesL_ (some 14) rfl rfl Try.func35 (by kernel_rfl) rfl #[.slice A0 l0.length c0] rfl (by (try simp only [List.map_toArray, List.map_cons, List.map_nil]); first | done | rfl | (simp only [List.length_drop, List.length_take]; rfl)) ?_; (with_reducible refine (span_Canon.calls kj2 _ _ l0 false _ ?side1 ?side2 A6.out).mono ?_); (case side1 => repeat (first | exact (Kd.C_below HR0.out HB.out) | (with_reducible refine Kd.C_alloc ?_ _) | (with_reducible refine Kd.C_drewN ?_ _) | (with_reducible refine Kd.C_drew ?_))); (case side2 => exact HC0.out); rintro e w17 ⟨rfl, hb⟩; refine ⟨_, rfl, ?_⟩; replace HB := Aside0.mk (below_step (HB.out) hb); (try clear hb); (try clear hi)))
     go_ret
     exact ⟨by first | rfl | (simp [errW_none, errW_some] <;> rfl) | (simp [*, errW_none, errW_some] <;> rfl), HB.out⟩
end Go.Proofs.Ytjlbgopgeepiaaa.PConf
namespace Go.Proofs.Ytjlbgopgeepiaaa.PConf
open Go.RowKit Go.Proofs.YtjlbgopgeepiaaaW.PrintWords Go.Proofs.YtjlbgopgeepiaaaW.PrintLast Go.Proofs.YtjlbgopgeepiaaaW.PrintMore
attribute [local go_sem] max2_int min2_int max_two min_two max_three min_three max_four min_four plus_setCell_drewN plus_cell_same   -- for this text's walks alone
set_option linter.unusedVariables false
set_option linter.unusedSimpArgs false
def group_sized.f (a0 : Int) : Option (Bool) := if a0 = 2 then (some true) else (some (a0 == 4))
set_option maxHeartbeats 8000000 in
set_option maxRecDepth 100000 in
theorem group_sized.calls (a0 : Int) (r : Bool) (w : World) (h : group_sized.f a0 = some r) :
  Calls Try.prog 51 #[.int .i64 a0] w fun e w' => e = .returned (.bool r) ∧ Drawn0 w w' := by
 have H : (if a0 = 2 then (some true) else (some (a0 == 4))) = some r := h
 clear h
 by_cases c2 : a0 = 2
 ·
  rw [if_pos c2] at H
  have c2b0 : (a0 == 2) = true := beq_iff_eq.mpr c2
  have c2b1 : (a0 != 2) = false := bne_eq_false_iff_eq.mpr c2
  clear c2
  obtain rfl := Option.some.inj H
  go_enter Try.func51, Try.ntmps51
  go_wp2
  go_ret
  exact ⟨by first | rfl | (simp; done) | (simp [*]; done), by repeat (first | exact Drawn0.refl _ | apply Drawn0.step)⟩
 ·
  rw [if_neg c2] at H
  have c2b0 : (a0 == 2) = false := beq_eq_false_iff_ne.mpr c2
  have c2b1 : (a0 != 2) = true := bne_iff_ne.mpr c2
  obtain rfl := Option.some.inj H
  go_enter Try.func51, Try.ntmps51
  go_wp2
  go_ret
  exact ⟨by first | rfl | (simp; done) | (simp [*]; done), by repeat (first | exact Drawn0.refl _ | apply Drawn0.step)⟩
end Go.Proofs.Ytjlbgopgeepiaaa.PConf
namespace Go.Proofs.Ytjlbgopgeepiaaa.PConf
open Go.RowKit Go.Proofs.YtjlbgopgeepiaaaW.PrintWords Go.Proofs.YtjlbgopgeepiaaaW.PrintLast Go.Proofs.YtjlbgopgeepiaaaW.PrintMore
attribute [local go_sem] max2_int min2_int max_two min_two max_three min_three max_four min_four plus_setCell_drewN plus_cell_same   -- for this text's walks alone
set_option linter.unusedVariables false
set_option linter.unusedSimpArgs false
def group_amiss.j0 : Nat → Bool → Int → Int → Int → Option (Int)
 | 0, _, _, _, _ => none
 | k + 1, x3, x126000, x126001, x126002 => if x3 = true then (some 1) else (if (Go.bits .and .i64 x126001 (wrap64 (x126002 - 1))) = 0 then (some 0) else (some 2))
def group_amiss.f (k : Nat) (a0_0 : Int) (a0_1 : Int) (a0_2 : Int) : Option (Int) := if a0_0 = 2 then ((group_sized.f a0_2).bind fun t126 => (if t126 = true then (if a0_1 < 0 then (group_amiss.j0 k true a0_0 a0_1 a0_2) else (group_amiss.j0 k (decide (a0_1 ≥ 65536)) a0_0 a0_1 a0_2)) else (group_amiss.j0 k true a0_0 a0_1 a0_2))) else (if a0_0 = 3 then ((group_sized.f a0_2).bind fun t127 => (if t127 = true then (if a0_1 < 0 then (group_amiss.j0 k true a0_0 a0_1 a0_2) else (group_amiss.j0 k (decide (a0_1 ≥ 65536)) a0_0 a0_1 a0_2)) else (group_amiss.j0 k true a0_0 a0_1 a0_2))) else (group_amiss.j0 k true a0_0 a0_1 a0_2))
theorem group_amiss.mono_l : ∀ k, (∀ y0 y1 y2 y3, LeO (group_amiss.j0 k y0 y1 y2 y3) (group_amiss.j0 (k + 1) y0 y1 y2 y3))
 | 0 => fun _ _ _ _ r h => by simp [group_amiss.j0] at h
 | k + 1 => by
  have ih0 := group_amiss.mono_l k
  ·
   intro y0 y1 y2 y3
   unfold group_amiss.j0
   repeat' first
   | (with_reducible exact ih0 _ _ _ _)
   | (with_reducible exact LeO.refl _)
   | (with_reducible exact LeO.none _)
   | (with_reducible refine LeO.ite ?_ ?_)
   | (with_reducible refine LeO.bind ?_ (fun _ => ?_))
   | exact ih0 _ _ _ _
   | exact LeO.none _
   | refine LeO.ite ?_ ?_
   | refine LeO.bind ?_ (fun _ => ?_)
theorem group_amiss.mono : ∀ a0 a1 a2 k, LeO (group_amiss.f k a0 a1 a2) (group_amiss.f (k + 1) a0 a1 a2) := by
 intro a0 a1 a2 k
 have ih0 := group_amiss.mono_l k
 unfold group_amiss.f
 repeat' first
   | (with_reducible exact ih0 _ _ _ _)
   | (with_reducible exact LeO.refl _)
   | (with_reducible exact LeO.none _)
   | (with_reducible refine LeO.ite ?_ ?_)
   | (with_reducible refine LeO.bind ?_ (fun _ => ?_))
   | exact ih0 _ _ _ _
   | exact LeO.none _
   | refine LeO.ite ?_ ?_
   | refine LeO.bind ?_ (fun _ => ?_)
set_option maxHeartbeats 8000000 in
set_option maxRecDepth 100000 in
theorem group_amiss.calls (k : Nat) (a0_0 : Int) (a0_1 : Int) (a0_2 : Int) (r : Int) (w : World) (h : group_amiss.f k a0_0 a0_1 a0_2 = some r) :
  Calls Try.prog 38 #[.agg #[.int .i64 a0_0, .int .i64 a0_1, .int .i64 a0_2]] w fun e w' => e = .returned (.int .i64 r) ∧ Below w.heap.size w w' := by
 have hu48 := Try.underlying48
 have HB := Aside0.mk (Below.refl w.heap.size w)
 have H : (if a0_0 = 2 then ((group_sized.f a0_2).bind fun t126 => (if t126 = true then (if a0_1 < 0 then (group_amiss.j0 k true a0_0 a0_1 a0_2) else (group_amiss.j0 k (decide (a0_1 ≥ 65536)) a0_0 a0_1 a0_2)) else (group_amiss.j0 k true a0_0 a0_1 a0_2))) else (if a0_0 = 3 then ((group_sized.f a0_2).bind fun t127 => (if t127 = true then (if a0_1 < 0 then (group_amiss.j0 k true a0_0 a0_1 a0_2) else (group_amiss.j0 k (decide (a0_1 ≥ 65536)) a0_0 a0_1 a0_2)) else (group_amiss.j0 k true a0_0 a0_1 a0_2))) else (group_amiss.j0 k true a0_0 a0_1 a0_2))) = some r := h
 clear h
 have HC2 := Aside0.mk H
 clear H
 go_enter Try.func38, Try.ntmps38
 go_upto_region 1 with (first | ((with_reducible refine gate_dst (N := 1) rfl ?_); refine box_event ?hg (N := 1) ?hd (cs := #[.int .i64 a0_0, .int .i64 a0_1, .int .i64 a0_2]) (t := 48) ?hr ?_; (case hd => rfl); (case hg => rfl); (case hr => first | (go_simp; done) | (go_simp; rfl)); intro gb125 hg w3 hbox hb; have BK125 := Aside0.mk (hbox); have GW125 := Aside0.mk ((by rw [hg]; exact (below_size (HB.out)) : w.heap.size ≤ gb125)); have GE125 := Aside0.mk ((by rw [hg]; exact (below_size (HB.out)) : w.heap.size ≤ gb125)); replace HB := Aside0.mk (below_step (HB.out) hb); clear hb hbox hg))
 (try simp only [Act.put, List.setIfInBounds_toArray, List.set_cons_zero, List.set_cons_succ])
 go_cut [3] (fun v3 wc => ∃ (kq : Nat) (x3_1 : Bool), v3 = .bool x3_1 ∧ Aside0 (group_amiss.j0 kq x3_1 a0_0 a0_1 a0_2 = some r) ∧ Aside0 (kq ≤ k) ∧ Aside0 (wc.heap[gb125]? = some (.cells #[.int .i64 a0_0, .int .i64 a0_1, .int .i64 a0_2] 48 (0, 0))) ∧ Aside0 (Below w.heap.size w wc))
 case first =>
  have H := HC2.out
  clear HC2
  by_cases c4 : a0_0 = 2
  ·
   rw [if_pos c4] at H
   have c4b0 : (a0_0 == 2) = true := beq_iff_eq.mpr c4
   have c4b1 : (a0_0 != 2) = false := bne_eq_false_iff_eq.mpr c4
   clear c4
   (first | rw [c4b0] | (simp only [i64_w, i32_w]; rw [c4b0]) | skip)
   replace H := Option.bind_eq_some_iff.mp H
   obtain ⟨t126, A50, H⟩ := H
   have A5 := Aside0.mk A50
   clear A50
   by_cases c6 : t126 = true
   ·
    subst c6
    have H1 : (if a0_1 < 0 then (group_amiss.j0 k true a0_0 a0_1 a0_2) else (group_amiss.j0 k (decide (a0_1 ≥ 65536)) a0_0 a0_1 a0_2)) = some r := by rw [if_pos rfl] at H; exact H
    clear H
    have H := H1
    clear H1
    by_cases c7 : a0_1 < 0
    ·
     rw [if_pos c7] at H
     have c7b0 : decide (a0_1 < 0) = true := decide_eq_true c7
     clear c7
     have H' := Aside0.mk H
     clear H
     obtain ⟨hcz8_0, hcz8_1, hcz8_2⟩ := blkc3 BK125.out
     obtain ⟨hfz8_0, hfz8_1, hfz8_2⟩ := blkf3 BK125.out
     go_wp2_with (first | (go_at_call 51; (with_reducible refine (group_sized.calls a0_2 true _ A5.out).mono ?_); rintro e w' ⟨rfl, ⟨nd, rfl⟩⟩))
     go_meet
     case rel => exact ⟨_, (true), (by first | rfl | (simp; done) | (simp [*]; done)), H', ⟨by first | omega | exact Nat.le_refl _⟩, ⟨by (with_reducible repeat (first | refine blk_drewN ?_ _ | refine blk_drew ?_ | refine blk_alloc ?_ _)); exact BK125.out⟩, ⟨by repeat (first | (with_reducible first | exact HB.out | apply below_alloc | apply pw_below_drewN | apply below_drew1 | refine below_set ?_ GE125.out) | exact HB.out)⟩⟩
    ·
     rw [if_neg c7] at H
     have c7b0 : decide (a0_1 < 0) = false := decide_eq_false c7
     clear c7
     have H' := Aside0.mk H
     clear H
     obtain ⟨hcz9_0, hcz9_1, hcz9_2⟩ := blkc3 BK125.out
     obtain ⟨hfz9_0, hfz9_1, hfz9_2⟩ := blkf3 BK125.out
     go_wp2_with (first | (go_at_call 51; (with_reducible refine (group_sized.calls a0_2 true _ A5.out).mono ?_); rintro e w' ⟨rfl, ⟨nd, rfl⟩⟩))
     go_meet
     case rel => exact ⟨_, (decide (a0_1 ≥ 65536)), (by first | rfl | (simp; done) | (simp [*]; done)), H', ⟨by first | omega | exact Nat.le_refl _⟩, ⟨by (with_reducible repeat (first | refine blk_drewN ?_ _ | refine blk_drew ?_ | refine blk_alloc ?_ _)); exact BK125.out⟩, ⟨by repeat (first | (with_reducible first | exact HB.out | apply below_alloc | apply pw_below_drewN | apply below_drew1 | refine below_set ?_ GE125.out) | exact HB.out)⟩⟩
   ·
    replace c6 := Bool.eq_false_iff.mpr c6
    subst c6
    have H1 : (group_amiss.j0 k true a0_0 a0_1 a0_2) = some r := by rw [if_neg (show ¬ (false = true) by decide)] at H; exact H
    clear H
    have H := H1
    clear H1
    have H' := Aside0.mk H
    clear H
    obtain ⟨hcz10_0, hcz10_1, hcz10_2⟩ := blkc3 BK125.out
    obtain ⟨hfz10_0, hfz10_1, hfz10_2⟩ := blkf3 BK125.out
    go_wp2_with (first | (go_at_call 51; (with_reducible refine (group_sized.calls a0_2 false _ A5.out).mono ?_); rintro e w' ⟨rfl, ⟨nd, rfl⟩⟩))
    go_meet
    case rel => exact ⟨_, (true), (by first | rfl | (simp; done) | (simp [*]; done)), H', ⟨by first | omega | exact Nat.le_refl _⟩, ⟨by (with_reducible repeat (first | refine blk_drewN ?_ _ | refine blk_drew ?_ | refine blk_alloc ?_ _)); exact BK125.out⟩, ⟨by repeat (first | (with_reducible first | exact HB.out | apply below_alloc | apply pw_below_drewN | apply below_drew1 | refine below_set ?_ GE125.out) | exact HB.out)⟩⟩
  ·
   rw [if_neg c4] at H
   have c4b0 : (a0_0 == 2) = false := beq_eq_false_iff_ne.mpr c4
   have c4b1 : (a0_0 != 2) = true := bne_iff_ne.mpr c4
   (first | rw [c4b0] | (simp only [i64_w, i32_w]; rw [c4b0]) | skip)
   by_cases c11 : a0_0 = 3
   ·
    rw [if_pos c11] at H
    have c11b0 : (a0_0 == 3) = true := beq_iff_eq.mpr c11
    have c11b1 : (a0_0 != 3) = false := bne_eq_false_iff_eq.mpr c11
    clear c11
    replace H := Option.bind_eq_some_iff.mp H
    obtain ⟨t127, A120, H⟩ := H
    have A12 := Aside0.mk A120
    clear A120
    by_cases c13 : t127 = true
    ·
     subst c13
     have H1 : (if a0_1 < 0 then (group_amiss.j0 k true a0_0 a0_1 a0_2) else (group_amiss.j0 k (decide (a0_1 ≥ 65536)) a0_0 a0_1 a0_2)) = some r := by rw [if_pos rfl] at H; exact H
     clear H
     have H := H1
     clear H1
     by_cases c14 : a0_1 < 0
     ·
      rw [if_pos c14] at H
      have c14b0 : decide (a0_1 < 0) = true := decide_eq_true c14
      clear c14
      have H' := Aside0.mk H
      clear H
      obtain ⟨hcz15_0, hcz15_1, hcz15_2⟩ := blkc3 BK125.out
      obtain ⟨hfz15_0, hfz15_1, hfz15_2⟩ := blkf3 BK125.out
      go_wp2_with (first | (go_at_call 51; (with_reducible refine (group_sized.calls a0_2 true _ A12.out).mono ?_); rintro e w' ⟨rfl, ⟨nd, rfl⟩⟩))
      go_meet
      case rel => exact ⟨_, (true), (by first | rfl | (simp; done) | (simp [*]; done)), H', ⟨by first | omega | exact Nat.le_refl _⟩, ⟨by (with_reducible repeat (first | refine blk_drewN ?_ _ | refine blk_drew ?_ | refine blk_alloc ?_ _)); exact BK125.out⟩, ⟨by repeat (first | (with_reducible first | exact HB.out | apply below_alloc | apply pw_below_drewN | apply below_drew1 | refine below_set ?_ GE125.out) | exact HB.out)⟩⟩
     ·
      rw [if_neg c14] at H
      have c14b0 : decide (a0_1 < 0) = false := decide_eq_false c14
      clear c14
      have H' := Aside0.mk H
      clear H
      obtain ⟨hcz16_0, hcz16_1, hcz16_2⟩ := blkc3 BK125.out
      obtain ⟨hfz16_0, hfz16_1, hfz16_2⟩ := blkf3 BK125.out
      go_wp2_with (first | (go_at_call 51; (with_reducible refine (group_sized.calls a0_2 true _ A12.out).mono ?_); rintro e w' ⟨rfl, ⟨nd, rfl⟩⟩))
      go_meet
      case rel => exact ⟨_, (decide (a0_1 ≥ 65536)), (by first | rfl | (simp; done) | (simp [*]; done)), H', ⟨by first | omega | exact Nat.le_refl _⟩, ⟨by (with_reducible repeat (first | refine blk_drewN ?_ _ | refine blk_drew ?_ | refine blk_alloc ?_ _)); exact BK125.out⟩, ⟨by repeat (first | (with_reducible first | exact HB.out | apply below_alloc | apply pw_below_drewN | apply below_drew1 | refine below_set ?_ GE125.out) | exact HB.out)⟩⟩
    ·
     replace c13 := Bool.eq_false_iff.mpr c13
     subst c13
     have H1 : (group_amiss.j0 k true a0_0 a0_1 a0_2) = some r := by rw [if_neg (show ¬ (false = true) by decide)] at H; exact H
     clear H
     have H := H1
     clear H1
     have H' := Aside0.mk H
     clear H
     obtain ⟨hcz17_0, hcz17_1, hcz17_2⟩ := blkc3 BK125.out
     obtain ⟨hfz17_0, hfz17_1, hfz17_2⟩ := blkf3 BK125.out
     go_wp2_with (first | (go_at_call 51; (with_reducible refine (group_sized.calls a0_2 false _ A12.out).mono ?_); rintro e w' ⟨rfl, ⟨nd, rfl⟩⟩))
     go_meet
     case rel => exact ⟨_, (true), (by first | rfl | (simp; done) | (simp [*]; done)), H', ⟨by first | omega | exact Nat.le_refl _⟩, ⟨by (with_reducible repeat (first | refine blk_drewN ?_ _ | refine blk_drew ?_ | refine blk_alloc ?_ _)); exact BK125.out⟩, ⟨by repeat (first | (with_reducible first | exact HB.out | apply below_alloc | apply pw_below_drewN | apply below_drew1 | refine below_set ?_ GE125.out) | exact HB.out)⟩⟩
   ·
    rw [if_neg c11] at H
    have c11b0 : (a0_0 == 3) = false := beq_eq_false_iff_ne.mpr c11
    have c11b1 : (a0_0 != 3) = true := bne_iff_ne.mpr c11
    have H' := Aside0.mk H
    clear H
    obtain ⟨hcz18_0, hcz18_1, hcz18_2⟩ := blkc3 BK125.out
    obtain ⟨hfz18_0, hfz18_1, hfz18_2⟩ := blkf3 BK125.out
    go_wp2
    go_meet
    case rel => exact ⟨_, (true), (by first | rfl | (simp; done) | (simp [*]; done)), H', ⟨by first | omega | exact Nat.le_refl _⟩, ⟨BK125.out⟩, ⟨HB.out⟩⟩
 case rest =>
  clear HC2
  obtain ⟨kq, x3_1, rfl, HA, HJ1, BK125, HB⟩ := hcut
  cases kq with
  | zero => exact absurd HA.out (by simp [group_amiss.j0])
  | succ kj1 =>
   have H := HA.out
   clear HA
   simp only [group_amiss.j0] at H
   by_cases c19 : x3_1 = true
   ·
    subst c19
    have H1 : (some 1) = some r := by rw [if_pos rfl] at H; exact H
    clear H
    have H := H1
    clear H1
    obtain rfl := Option.some.inj H
    go_wp2
    go_ret
    exact ⟨by first | rfl | (simp [errW_none, errW_some] <;> rfl) | (simp [*, errW_none, errW_some] <;> rfl), HB.out⟩
   ·
    replace c19 := Bool.eq_false_iff.mpr c19
    subst c19
    have H1 : (if (Go.bits .and .i64 a0_1 (wrap64 (a0_2 - 1))) = 0 then (some 0) else (some 2)) = some r := by rw [if_neg (show ¬ (false = true) by decide)] at H; exact H
    clear H
    have H := H1
    clear H1
    by_cases c20 : (Go.bits .and .i64 a0_1 (wrap64 (a0_2 - 1))) = 0
    ·
     rw [if_pos c20] at H
     have c20b0 : ((Go.bits .and .i64 a0_1 (wrap64 (a0_2 - 1))) == 0) = true := beq_iff_eq.mpr c20
     have c20b1 : ((Go.bits .and .i64 a0_1 (wrap64 (a0_2 - 1))) != 0) = false := bne_eq_false_iff_eq.mpr c20
     clear c20
     obtain rfl := Option.some.inj H
     obtain ⟨hcz21_0, hcz21_1, hcz21_2⟩ := blkc3 BK125.out
     obtain ⟨hfz21_0, hfz21_1, hfz21_2⟩ := blkf3 BK125.out
     go_wp2
     go_ret
     exact ⟨by first | rfl | (simp [errW_none, errW_some] <;> rfl) | (simp [*, errW_none, errW_some] <;> rfl), HB.out⟩
    ·
     rw [if_neg c20] at H
     have c20b0 : ((Go.bits .and .i64 a0_1 (wrap64 (a0_2 - 1))) == 0) = false := beq_eq_false_iff_ne.mpr c20
     have c20b1 : ((Go.bits .and .i64 a0_1 (wrap64 (a0_2 - 1))) != 0) = true := bne_iff_ne.mpr c20
     obtain rfl := Option.some.inj H
     obtain ⟨hcz22_0, hcz22_1, hcz22_2⟩ := blkc3 BK125.out
     obtain ⟨hfz22_0, hfz22_1, hfz22_2⟩ := blkf3 BK125.out
     go_wp2
     go_ret
     exact ⟨by first | rfl | (simp [errW_none, errW_some] <;> rfl) | (simp [*, errW_none, errW_some] <;> rfl), HB.out⟩
end Go.Proofs.Ytjlbgopgeepiaaa.PConf
namespace Go.Proofs.Ytjlbgopgeepiaaa.PConf
open Go.RowKit Go.Proofs.YtjlbgopgeepiaaaW.PrintWords Go.Proofs.YtjlbgopgeepiaaaW.PrintLast Go.Proofs.YtjlbgopgeepiaaaW.PrintMore
attribute [local go_sem] max2_int min2_int max_two min_two max_three min_three max_four min_four plus_setCell_drewN plus_cell_same   -- for this text's walks alone
set_option linter.unusedVariables false
set_option linter.unusedSimpArgs false
def group_behind.f (a0_0 : Int) (a0_1 : Int) (a0_2 : Int) (a1_0 : Int) (a1_1 : Int) (a1_2 : Int) : Option (Bool) := if a0_0 > a1_0 then (some true) else (if a0_0 = a1_0 then (some (decide (a0_1 ≥ (wrap64 (a1_1 + a1_2))))) else (some false))
set_option maxHeartbeats 8000000 in
set_option maxRecDepth 100000 in
theorem group_behind.calls (a0_0 : Int) (a0_1 : Int) (a0_2 : Int) (a1_0 : Int) (a1_1 : Int) (a1_2 : Int) (r : Bool) (w : World) (h : group_behind.f a0_0 a0_1 a0_2 a1_0 a1_1 a1_2 = some r) :
  Calls Try.prog 39 #[.agg #[.int .i64 a0_0, .int .i64 a0_1, .int .i64 a0_2], .agg #[.int .i64 a1_0, .int .i64 a1_1, .int .i64 a1_2]] w fun e w' => e = .returned (.bool r) ∧ Below w.heap.size w w' := by
 have hu48 := Try.underlying48
 have HB := Aside0.mk (Below.refl w.heap.size w)
 have H : (if a0_0 > a1_0 then (some true) else (if a0_0 = a1_0 then (some (decide (a0_1 ≥ (wrap64 (a1_1 + a1_2))))) else (some false))) = some r := h
 clear h
 by_cases c3 : a0_0 > a1_0
 ·
  rw [if_pos c3] at H
  have c3b0 : decide (a1_0 < a0_0) = true := decide_eq_true c3
  clear c3
  obtain rfl := Option.some.inj H
  go_enter Try.func39, Try.ntmps39
  go_wp2_with (first | ((with_reducible refine gate_dst (N := 2) rfl ?_); refine box_event ?hg (N := 2) ?hd (cs := #[.int .i64 a0_0, .int .i64 a0_1, .int .i64 a0_2]) (t := 48) ?hr ?_; (case hd => rfl); (case hg => rfl); (case hr => first | (go_simp; done) | (go_simp; rfl)); intro gb128 hg w4 hbox hb; have BK128 := Aside0.mk (hbox); have GW128 := Aside0.mk ((by rw [hg]; exact (below_size (HB.out)) : w.heap.size ≤ gb128)); have GE128 := Aside0.mk ((by rw [hg]; exact (below_size (HB.out)) : w.heap.size ≤ gb128)); replace HB := Aside0.mk (below_step (HB.out) hb); clear hb hbox hg) | ((with_reducible refine gate_dst (N := 3) rfl ?_); refine box_event ?hg (N := 3) ?hd (cs := #[.int .i64 a1_0, .int .i64 a1_1, .int .i64 a1_2]) (t := 48) ?hr ?_; (case hd => rfl); (case hg => rfl); (case hr => first | (go_simp; done) | (go_simp; rfl)); intro gb129 hg w5 hbox hb; have BK129 := Aside0.mk (hbox); have GW129 := Aside0.mk ((by rw [hg]; exact (below_size (HB.out)) : w.heap.size ≤ gb129)); have GE129 := Aside0.mk ((by rw [hg]; exact (below_size (HB.out)) : w.heap.size ≤ gb129)); replace HB := Aside0.mk (below_step (HB.out) hb); have NB128_129 := Aside0.mk ((by rw [hg]; exact Nat.ne_of_lt (blk_lt (g := gb128) (o := .cells #[.int .i64 a0_0, .int .i64 a0_1, .int .i64 a0_2] 48 (0, 0)) (BK128.out)) : gb128 ≠ gb129)); have NB129_128 := Aside0.mk ((by rw [hg]; exact Nat.ne_of_gt (blk_lt (g := gb128) (o := .cells #[.int .i64 a0_0, .int .i64 a0_1, .int .i64 a0_2] 48 (0, 0)) (BK128.out)) : gb129 ≠ gb128)); replace BK128 := Aside0.mk (blk_below BK128.out hb); clear hb hbox hg; have hnb6 := NB128_129.out; have hnc6 := NB129_128.out; obtain ⟨hcz7_0, hcz7_1, hcz7_2⟩ := blkc3 BK128.out; obtain ⟨hfz7_0, hfz7_1, hfz7_2⟩ := blkf3 BK128.out; obtain ⟨hcz8_0, hcz8_1, hcz8_2⟩ := blkc3 BK129.out; obtain ⟨hfz8_0, hfz8_1, hfz8_2⟩ := blkf3 BK129.out))
  go_ret
  exact ⟨by first | rfl | (simp [errW_none, errW_some] <;> rfl) | (simp [*, errW_none, errW_some] <;> rfl), HB.out⟩
 ·
  rw [if_neg c3] at H
  have c3b0 : decide (a1_0 < a0_0) = false := decide_eq_false c3
  clear c3
  by_cases c9 : a0_0 = a1_0
  ·
   rw [if_pos c9] at H
   have c9b0 : (a0_0 == a1_0) = true := beq_iff_eq.mpr c9
   have c9b1 : (a0_0 != a1_0) = false := bne_eq_false_iff_eq.mpr c9
   clear c9
   obtain rfl := Option.some.inj H
   go_enter Try.func39, Try.ntmps39
   go_wp2_with (first | ((with_reducible refine gate_dst (N := 2) rfl ?_); refine box_event ?hg (N := 2) ?hd (cs := #[.int .i64 a0_0, .int .i64 a0_1, .int .i64 a0_2]) (t := 48) ?hr ?_; (case hd => rfl); (case hg => rfl); (case hr => first | (go_simp; done) | (go_simp; rfl)); intro gb128 hg w10 hbox hb; have BK128 := Aside0.mk (hbox); have GW128 := Aside0.mk ((by rw [hg]; exact (below_size (HB.out)) : w.heap.size ≤ gb128)); have GE128 := Aside0.mk ((by rw [hg]; exact (below_size (HB.out)) : w.heap.size ≤ gb128)); replace HB := Aside0.mk (below_step (HB.out) hb); clear hb hbox hg) | ((with_reducible refine gate_dst (N := 3) rfl ?_); refine box_event ?hg (N := 3) ?hd (cs := #[.int .i64 a1_0, .int .i64 a1_1, .int .i64 a1_2]) (t := 48) ?hr ?_; (case hd => rfl); (case hg => rfl); (case hr => first | (go_simp; done) | (go_simp; rfl)); intro gb129 hg w11 hbox hb; have BK129 := Aside0.mk (hbox); have GW129 := Aside0.mk ((by rw [hg]; exact (below_size (HB.out)) : w.heap.size ≤ gb129)); have GE129 := Aside0.mk ((by rw [hg]; exact (below_size (HB.out)) : w.heap.size ≤ gb129)); replace HB := Aside0.mk (below_step (HB.out) hb); have NB128_129 := Aside0.mk ((by rw [hg]; exact Nat.ne_of_lt (blk_lt (g := gb128) (o := .cells #[.int .i64 a0_0, .int .i64 a0_1, .int .i64 a0_2] 48 (0, 0)) (BK128.out)) : gb128 ≠ gb129)); have NB129_128 := Aside0.mk ((by rw [hg]; exact Nat.ne_of_gt (blk_lt (g := gb128) (o := .cells #[.int .i64 a0_0, .int .i64 a0_1, .int .i64 a0_2] 48 (0, 0)) (BK128.out)) : gb129 ≠ gb128)); replace BK128 := Aside0.mk (blk_below BK128.out hb); clear hb hbox hg; have hnb12 := NB128_129.out; have hnc12 := NB129_128.out; obtain ⟨hcz13_0, hcz13_1, hcz13_2⟩ := blkc3 BK128.out; obtain ⟨hfz13_0, hfz13_1, hfz13_2⟩ := blkf3 BK128.out; obtain ⟨hcz14_0, hcz14_1, hcz14_2⟩ := blkc3 BK129.out; obtain ⟨hfz14_0, hfz14_1, hfz14_2⟩ := blkf3 BK129.out))
   go_ret
   exact ⟨by first | rfl | (simp [errW_none, errW_some] <;> rfl) | (simp [*, errW_none, errW_some] <;> rfl), HB.out⟩
  ·
   rw [if_neg c9] at H
   have c9b0 : (a0_0 == a1_0) = false := beq_eq_false_iff_ne.mpr c9
   have c9b1 : (a0_0 != a1_0) = true := bne_iff_ne.mpr c9
   obtain rfl := Option.some.inj H
   go_enter Try.func39, Try.ntmps39
   go_wp2_with (first | ((with_reducible refine gate_dst (N := 2) rfl ?_); refine box_event ?hg (N := 2) ?hd (cs := #[.int .i64 a0_0, .int .i64 a0_1, .int .i64 a0_2]) (t := 48) ?hr ?_; (case hd => rfl); (case hg => rfl); (case hr => first | (go_simp; done) | (go_simp; rfl)); intro gb128 hg w15 hbox hb; have BK128 := Aside0.mk (hbox); have GW128 := Aside0.mk ((by rw [hg]; exact (below_size (HB.out)) : w.heap.size ≤ gb128)); have GE128 := Aside0.mk ((by rw [hg]; exact (below_size (HB.out)) : w.heap.size ≤ gb128)); replace HB := Aside0.mk (below_step (HB.out) hb); clear hb hbox hg) | ((with_reducible refine gate_dst (N := 3) rfl ?_); refine box_event ?hg (N := 3) ?hd (cs := #[.int .i64 a1_0, .int .i64 a1_1, .int .i64 a1_2]) (t := 48) ?hr ?_; (case hd => rfl); (case hg => rfl); (case hr => first | (go_simp; done) | (go_simp; rfl)); intro gb129 hg w16 hbox hb; have BK129 := Aside0.mk (hbox); have GW129 := Aside0.mk ((by rw [hg]; exact (below_size (HB.out)) : w.heap.size ≤ gb129)); have GE129 := Aside0.mk ((by rw [hg]; exact (below_size (HB.out)) : w.heap.size ≤ gb129)); replace HB := Aside0.mk (below_step (HB.out) hb); have NB128_129 := Aside0.mk ((by rw [hg]; exact Nat.ne_of_lt (blk_lt (g := gb128) (o := .cells #[.int .i64 a0_0, .int .i64 a0_1, .int .i64 a0_2] 48 (0, 0)) (BK128.out)) : gb128 ≠ gb129)); have NB129_128 := Aside0.mk ((by rw [hg]; exact Nat.ne_of_gt (blk_lt (g := gb128) (o := .cells #[.int .i64 a0_0, .int .i64 a0_1, .int .i64 a0_2] 48 (0, 0)) (BK128.out)) : gb129 ≠ gb128)); replace BK128 := Aside0.mk (blk_below BK128.out hb); clear hb hbox hg; have hnb17 := NB128_129.out; have hnc17 := NB129_128.out; obtain ⟨hcz18_0, hcz18_1, hcz18_2⟩ := blkc3 BK128.out; obtain ⟨hfz18_0, hfz18_1, hfz18_2⟩ := blkf3 BK128.out; obtain ⟨hcz19_0, hcz19_1, hcz19_2⟩ := blkc3 BK129.out; obtain ⟨hfz19_0, hfz19_1, hfz19_2⟩ := blkf3 BK129.out))
   go_ret
   exact ⟨by first | rfl | (simp [errW_none, errW_some] <;> rfl) | (simp [*, errW_none, errW_some] <;> rfl), HB.out⟩
end Go.Proofs.Ytjlbgopgeepiaaa.PConf
namespace Go.Proofs.Ytjlbgopgeepiaaa.PConf
open Go.RowKit Go.Proofs.YtjlbgopgeepiaaaW.PrintWords Go.Proofs.YtjlbgopgeepiaaaW.PrintLast Go.Proofs.YtjlbgopgeepiaaaW.PrintMore
attribute [local go_sem] max2_int min2_int max_two min_two max_three min_three max_four min_four plus_setCell_drewN plus_cell_same   -- for this text's walks alone
set_option linter.unusedVariables false
set_option linter.unusedSimpArgs false
theorem eqA46 (d : Nat) (w : World) (x0 y0 : Int) (x1 y1 : Int) (x2 y2 : Int) :
  (Op.equalIn (d + 2) 46 (.agg #[.int .i64 x0, .int .i64 x1, .int .i64 x2]) (.agg #[.int .i64 y0, .int .i64 y1, .int .i64 y2])).run Try.prog w = .ok (x0 == y0 && (x1 == y1 && (x2 == y2))) w := by
 refine eqA_of Try.underlying46 (by kernel_rfl) ?_
 refine eqf_cons (by rfl) (by go_simp; rfl) (by go_simp; rfl) (by go_simp) ?_
 refine eqf_cons (by rfl) (by go_simp; rfl) (by go_simp; rfl) (by go_simp) ?_
 exact eqf_last (by rfl) (by go_simp; rfl) (by go_simp; rfl) (by go_simp)
end Go.Proofs.Ytjlbgopgeepiaaa.PConf
namespace Go.Proofs.Ytjlbgopgeepiaaa.PConf
open Go.RowKit Go.Proofs.YtjlbgopgeepiaaaW.PrintWords Go.Proofs.YtjlbgopgeepiaaaW.PrintLast Go.Proofs.YtjlbgopgeepiaaaW.PrintMore
attribute [local go_sem] max2_int min2_int max_two min_two max_three min_three max_four min_four plus_setCell_drewN plus_cell_same   -- for this text's walks alone
set_option linter.unusedVariables false
set_option linter.unusedSimpArgs false
attribute [local go_sem high] eqA46
def span_Covers.l0 : Nat → List (S46) → Int → Int → Int → Int → Int → Option (Bool)
 | 0, _, _, _, _, _, _ => none
 | k + 1, x7, x8, x9, x131000, x131001, x131002 => if x9 < x8 then (if 0 ≤ x9 then (if x9 < (x7.length : Int) then ((span_both.f ((rd_T46 x7 x9).f0) ((rd_T46 x7 x9).f1) ((rd_T46 x7 x9).f2) x131000 x131001 x131002).bind fun bt133 => (if (bt133.1 == x131000 && (bt133.2.1 == x131001 && (bt133.2.2 == x131002))) = true then (some true) else (span_Covers.l0 k x7 x8 (wrap64 (x9 + 1)) x131000 x131001 x131002))) else (none)) else (none)) else (some false)
def span_Covers.f (k : Nat) (l0 : List (S46)) (a1_0 : Int) (a1_1 : Int) (a1_2 : Int) : Option (Bool) := span_Covers.l0 k l0 (l0.length : Int) 0 a1_0 a1_1 a1_2
theorem span_Covers.mono_l : ∀ k, (∀ y0 y1 y2 y3 y4 y5, LeO (span_Covers.l0 k y0 y1 y2 y3 y4 y5) (span_Covers.l0 (k + 1) y0 y1 y2 y3 y4 y5))
 | 0 => fun _ _ _ _ _ _ r h => by simp [span_Covers.l0] at h
 | k + 1 => by
  have ih0 := span_Covers.mono_l k
  ·
   intro y0 y1 y2 y3 y4 y5
   unfold span_Covers.l0
   repeat' first
   | (with_reducible exact ih0 _ _ _ _ _ _)
   | (with_reducible exact LeO.refl _)
   | (with_reducible exact LeO.none _)
   | (with_reducible refine LeO.ite ?_ ?_)
   | (with_reducible refine LeO.bind ?_ (fun _ => ?_))
   | exact ih0 _ _ _ _ _ _
   | exact LeO.none _
   | refine LeO.ite ?_ ?_
   | refine LeO.bind ?_ (fun _ => ?_)
theorem span_Covers.mono : ∀ a0 a1 a2 a3 k, LeO (span_Covers.f k a0 a1 a2 a3) (span_Covers.f (k + 1) a0 a1 a2 a3) := by
 intro a0 a1 a2 a3 k
 have ih0 := span_Covers.mono_l k
 unfold span_Covers.f
 repeat' first
   | (with_reducible exact ih0 _ _ _ _ _ _)
   | (with_reducible exact LeO.refl _)
   | (with_reducible exact LeO.none _)
   | (with_reducible refine LeO.ite ?_ ?_)
   | (with_reducible refine LeO.bind ?_ (fun _ => ?_))
   | exact ih0 _ _ _ _ _ _
   | exact LeO.none _
   | refine LeO.ite ?_ ?_
   | refine LeO.bind ?_ (fun _ => ?_)
set_option maxHeartbeats 8000000 in
set_option maxRecDepth 100000 in
theorem span_Covers.calls (k : Nat) (A0 : Option Addr) (c0 : Nat) (l0 : List (S46)) (a1_0 : Int) (a1_1 : Int) (a1_2 : Int) (r : Bool) (w : World) (hr0 : Kd.C k46 w A0 l0.length l0) (hc0 : l0.length ≤ c0) (h : span_Covers.f k l0 a1_0 a1_1 a1_2 = some r) :
  Calls Try.prog 40 #[.slice A0 l0.length c0, .agg #[.int .i64 a1_0, .int .i64 a1_1, .int .i64 a1_2]] w fun e w' => e = .returned (.bool r) ∧ Below w.heap.size w w' := by
 have hu46 := Try.underlying46
 have HR0 := Aside0.mk hr0
 have HC0 := Aside0.mk hc0
 clear hr0 hc0
 have HB := Aside0.mk (Below.refl w.heap.size w)
 have H : (span_Covers.l0 k l0 (l0.length : Int) 0 a1_0 a1_1 a1_2) = some r := h
 clear h
 have H' := Aside0.mk H
 clear H
 go_enter Try.func40, Try.ntmps40
 go_wp2_with (first | ((with_reducible refine gate_dst (N := 3) rfl ?_); refine box_event ?hg (N := 3) ?hd (cs := #[.int .i64 a1_0, .int .i64 a1_1, .int .i64 a1_2]) (t := 46) ?hr ?_; (case hd => rfl); (case hg => rfl); (case hr => first | (go_simp; done) | (go_simp; rfl)); intro gb130 hg w3 hbox hb; have BK130 := Aside0.mk (hbox); have GW130 := Aside0.mk ((by rw [hg]; exact (below_size (HB.out)) : w.heap.size ≤ gb130)); have GE130 := Aside0.mk ((by rw [hg]; exact (below_size (HB.out)) : w.heap.size ≤ gb130)); replace HB := Aside0.mk (below_step (HB.out) hb); clear hb hbox hg))
 go_loopg [9] k (fun kq v9 w' => ∃ (x9_1 : Int), v9 = .int .i64 x9_1 ∧ Aside0 (span_Covers.l0 kq l0 (l0.length : Int) x9_1 a1_0 a1_1 a1_2 = some r) ∧ Aside0 (kq ≤ k) ∧ Aside0 (w'.heap[gb130]? = some (.cells #[.int .i64 a1_0, .int .i64 a1_1, .int .i64 a1_2] 46 (0, 0))) ∧ Aside0 (Below w.heap.size w w'))
 case atStart => exact ⟨(0), (by first | rfl | (simp; done) | (simp [*]; done)), H', ⟨Nat.le_refl _⟩, ⟨BK130.out⟩, ⟨HB.out⟩⟩
 case round =>
  clear H'
  obtain ⟨x9_1, rfl, HA, HK1, BK130, HB⟩ := hrel
  cases gk with
  | zero => exact absurd HA.out (by simp [span_Covers.l0])
  | succ k1 =>
   have H := HA.out
   clear HA
   simp only [span_Covers.l0] at H
   by_cases c4 : x9_1 < (l0.length : Int)
   ·
    rw [if_pos c4] at H
    have c4b0 : decide (x9_1 < (l0.length : Int)) = true := decide_eq_true c4
    clear c4
    by_cases c5 : 0 ≤ x9_1
    ·
     rw [if_pos c5] at H
     have c5b0 : decide (0 ≤ x9_1) = true := decide_eq_true c5
     clear c5
     by_cases c6 : x9_1 < (l0.length : Int)
     ·
      rw [if_pos c6] at H
      have c6b0 : decide (x9_1 < (l0.length : Int)) = true := decide_eq_true c6
      clear c6
      replace H := Option.bind_eq_some_iff.mp H
      obtain ⟨⟨t133, t134, t135⟩, A70, H⟩ := H
      replace H : (if (t133 == a1_0 && (t134 == a1_1 && (t135 == a1_2))) = true then (some true) else (span_Covers.l0 k1 l0 (l0.length : Int) (wrap64 (x9_1 + 1)) a1_0 a1_1 a1_2)) = some r := H
      have A7 := Aside0.mk A70
      clear A70
      by_cases c8 : (t133 == a1_0 && (t134 == a1_1 && (t135 == a1_2))) = true
      ·
       rw [if_pos c8] at H
       have c8b0 : (t133 == a1_0 && (t134 == a1_1 && (t135 == a1_2))) = true := c8
       (try (have c8b1 : decide (t133 = a1_0 && (t134 == a1_1 && (t135 == a1_2))) = true := by simpa using c8))
       (try (have c8b2 : (t133 == a1_0 && (t134 == a1_1 && (t135 == a1_2))) = true := by simpa using c8))
       clear c8
       obtain rfl := Option.some.inj H
       have p131 : 0 ≤ (x9_1 : Int) := of_decide_eq_true (by first | (with_reducible assumption) | assumption)
       have q131 : x9_1 < (l0.length : Int) := of_decide_eq_true (by first | (with_reducible assumption) | assumption)
       obtain ⟨ad131, e131, hx131_0, hx131_1, hx131_2⟩ := at_T46 HR0.out x9_1 p131 q131
       cases e131
       replace hx131_0 := (HB.out.cell (World.block_lt_of_cell? w _ hx131_0)).trans hx131_0
       replace hx131_1 := (HB.out.cell (World.block_lt_of_cell? w _ hx131_1)).trans hx131_1
       replace hx131_2 := (HB.out.cell (World.block_lt_of_cell? w _ hx131_2)).trans hx131_2
       replace p131 := eq_true p131
       replace q131 := eq_true q131
       try go_wp2_with (first | ((with_reducible refine gate_dst (N := 6) rfl ?_); refine box_event ?hg (N := 6) ?hd (cs := #[.int .i64 0, .int .i64 0, .int .i64 0]) (t := 46) ?hr ?_; (case hd => rfl); (case hg => rfl); (case hr => first | (go_simp; done) | (go_simp; rfl)); intro gb132 hg w9 hbox hb; have BK132 := Aside0.mk (hbox); have GW132 := Aside0.mk ((by rw [hg]; exact (below_size (HB.out)) : w.heap.size ≤ gb132)); have GE132 := Aside0.mk ((by rw [hg]; exact (below_size (HB.out)) : w.heap.size ≤ gb132)); replace HB := Aside0.mk (below_step (HB.out) hb); have NB130_132 := Aside0.mk ((by rw [hg]; exact Nat.ne_of_lt (blk_lt (g := gb130) (o := .cells #[.int .i64 a1_0, .int .i64 a1_1, .int .i64 a1_2] 46 (0, 0)) (BK130.out)) : gb130 ≠ gb132)); have NB132_130 := Aside0.mk ((by rw [hg]; exact Nat.ne_of_gt (blk_lt (g := gb130) (o := .cells #[.int .i64 a1_0, .int .i64 a1_1, .int .i64 a1_2] 46 (0, 0)) (BK130.out)) : gb132 ≠ gb130)); replace BK130 := Aside0.mk (blk_below BK130.out hb); clear hb hbox hg; have hnb10 := NB132_130.out; have hnc10 := NB130_132.out; obtain ⟨hcz11_0, hcz11_1, hcz11_2⟩ := blkc3 BK132.out; obtain ⟨hfz11_0, hfz11_1, hfz11_2⟩ := blkf3 BK132.out))
       have n0_ : Aside0 ((((w9.setCell ⟨gb132, 0, none⟩ (.int .i64 ((rd_T46 l0 x9_1).f0))).setCell ⟨gb132, 1, none⟩ (.int .i64 ((rd_T46 l0 x9_1).f1))).setCell ⟨gb132, 2, none⟩ (.int .i64 ((rd_T46 l0 x9_1).f2))).heap[gb130]? = some (.cells #[.int .i64 a1_0, .int .i64 a1_1, .int .i64 a1_2] 46 (0, 0))) := ⟨by (with_reducible repeat (first | refine blk_drewN ?_ _ | refine blk_drew ?_ | refine blk_alloc ?_ _)); refine blk_far ?_ NB130_132.out _; (with_reducible repeat (first | refine blk_drewN ?_ _ | refine blk_drew ?_ | refine blk_alloc ?_ _)); refine blk_far ?_ NB130_132.out _; (with_reducible repeat (first | refine blk_drewN ?_ _ | refine blk_drew ?_ | refine blk_alloc ?_ _)); refine blk_far ?_ NB130_132.out _; (with_reducible repeat (first | refine blk_drewN ?_ _ | refine blk_drew ?_ | refine blk_alloc ?_ _)); exact BK130.out⟩
       have n1_ : Aside0 ((((w9.setCell ⟨gb132, 0, none⟩ (.int .i64 ((rd_T46 l0 x9_1).f0))).setCell ⟨gb132, 1, none⟩ (.int .i64 ((rd_T46 l0 x9_1).f1))).setCell ⟨gb132, 2, none⟩ (.int .i64 ((rd_T46 l0 x9_1).f2))).heap[gb132]? = some (.cells #[.int .i64 ((rd_T46 l0 x9_1).f0), .int .i64 ((rd_T46 l0 x9_1).f1), .int .i64 ((rd_T46 l0 x9_1).f2)] 46 (0, 0))) := ⟨by (with_reducible repeat (first | refine blk_drewN ?_ _ | refine blk_drew ?_ | refine blk_alloc ?_ _)); refine blk_put (cs := #[.int .i64 ((rd_T46 l0 x9_1).f0), .int .i64 ((rd_T46 l0 x9_1).f1), .int .i64 0]) ?_ 2 _ rfl; (with_reducible repeat (first | refine blk_drewN ?_ _ | refine blk_drew ?_ | refine blk_alloc ?_ _)); refine blk_put (cs := #[.int .i64 ((rd_T46 l0 x9_1).f0), .int .i64 0, .int .i64 0]) ?_ 1 _ rfl; (with_reducible repeat (first | refine blk_drewN ?_ _ | refine blk_drew ?_ | refine blk_alloc ?_ _)); refine blk_put (cs := #[.int .i64 0, .int .i64 0, .int .i64 0]) ?_ 0 _ rfl; (with_reducible repeat (first | refine blk_drewN ?_ _ | refine blk_drew ?_ | refine blk_alloc ?_ _)); exact BK132.out⟩
       have n2_ : Aside0 (Below w.heap.size w (((w9.setCell ⟨gb132, 0, none⟩ (.int .i64 ((rd_T46 l0 x9_1).f0))).setCell ⟨gb132, 1, none⟩ (.int .i64 ((rd_T46 l0 x9_1).f1))).setCell ⟨gb132, 2, none⟩ (.int .i64 ((rd_T46 l0 x9_1).f2)))) := ⟨by repeat (first | (with_reducible first | exact HB.out | apply below_alloc | apply pw_below_drewN | apply below_drew1 | refine below_set ?_ GE130.out | refine below_set ?_ GE132.out) | exact HB.out)⟩
       (try clear BK130)
       (try clear BK132)
       (try clear HB)
       first | (rw [drewN_self (((w9.setCell ⟨gb132, 0, none⟩ (.int .i64 ((rd_T46 l0 x9_1).f0))).setCell ⟨gb132, 1, none⟩ (.int .i64 ((rd_T46 l0 x9_1).f1))).setCell ⟨gb132, 2, none⟩ (.int .i64 ((rd_T46 l0 x9_1).f2)))]; generalize hq_ : World.drewN (((w9.setCell ⟨gb132, 0, none⟩ (.int .i64 ((rd_T46 l0 x9_1).f0))).setCell ⟨gb132, 1, none⟩ (.int .i64 ((rd_T46 l0 x9_1).f1))).setCell ⟨gb132, 2, none⟩ (.int .i64 ((rd_T46 l0 x9_1).f2))) _ = w12; have m0_ : Aside0 (w12.heap[gb130]? = some (.cells #[.int .i64 a1_0, .int .i64 a1_1, .int .i64 a1_2] 46 (0, 0))) := ⟨by rw [← hq_]; first | exact Kd.R_drewN n0_.out _ | exact Kd.Q_drewN n0_.out _ | exact blk_drewN n0_.out _ | exact pw_below_drewN n0_.out _ | exact Kd.S_drewN n0_.out _ | exact n0_.out⟩; have m1_ : Aside0 (w12.heap[gb132]? = some (.cells #[.int .i64 ((rd_T46 l0 x9_1).f0), .int .i64 ((rd_T46 l0 x9_1).f1), .int .i64 ((rd_T46 l0 x9_1).f2)] 46 (0, 0))) := ⟨by rw [← hq_]; first | exact Kd.R_drewN n1_.out _ | exact Kd.Q_drewN n1_.out _ | exact blk_drewN n1_.out _ | exact pw_below_drewN n1_.out _ | exact Kd.S_drewN n1_.out _ | exact n1_.out⟩; have m2_ : Aside0 (Below w.heap.size w w12) := ⟨by rw [← hq_]; first | exact Kd.R_drewN n2_.out _ | exact Kd.Q_drewN n2_.out _ | exact blk_drewN n2_.out _ | exact pw_below_drewN n2_.out _ | exact Kd.S_drewN n2_.out _ | exact n2_.out⟩; clear hq_ n0_ n1_ n2_; have n0_ := m0_; have n1_ := m1_; have n2_ := m2_; clear m0_ m1_ m2_) | (generalize (((w9.setCell ⟨gb132, 0, none⟩ (.int .i64 ((rd_T46 l0 x9_1).f0))).setCell ⟨gb132, 1, none⟩ (.int .i64 ((rd_T46 l0 x9_1).f1))).setCell ⟨gb132, 2, none⟩ (.int .i64 ((rd_T46 l0 x9_1).f2))) = w12 at n0_ n1_ n2_ ⊢)
       have BK130 := n0_
       have BK132 := n1_
       have HB := n2_
       clear n0_ n1_ n2_
       have n0_ := Aside0.mk (blk_drew BK130.out)
       have n1_ := Aside0.mk (blk_drew BK132.out)
       have n2_ := Aside0.mk (below_drew1 HB.out)
       clear BK130
       clear BK132
       clear HB
       have BK130 := n0_
       have BK132 := n1_
       have HB := n2_
       clear n0_ n1_ n2_
       refine start_ (n := 5) (S := fun w' => w'.cell? ⟨gb132, 0, none⟩ = some (.int .i64 ((rd_T46 l0 x9_1).f0)) ∧ w'.cell? ⟨gb132, 1, none⟩ = some (.int .i64 ((rd_T46 l0 x9_1).f1)) ∧ w'.cell? ⟨gb132, 2, none⟩ = some (.int .i64 ((rd_T46 l0 x9_1).f2)) ∧ w'.cell? ⟨gb130, 0, none⟩ = some (.int .i64 a1_0) ∧ w'.cell? ⟨gb130, 1, none⟩ = some (.int .i64 a1_1) ∧ w'.cell? ⟨gb130, 2, none⟩ = some (.int .i64 a1_2)) (ds := []) #[false,false,false,false,false] (by kernel_rfl) rfl rfl ⟨(blk_cell BK132.out 0).trans rfl, (blk_cell BK132.out 1).trans rfl, (blk_cell BK132.out 2).trans rfl, (blk_cell BK130.out 0).trans rfl, (blk_cell BK130.out 1).trans rfl, (blk_cell BK130.out 2).trans rfl⟩ (fun hHeld => ?_)
       generalize w12.drew = w13 at BK130 BK132 HB hHeld ⊢
       refine take_ (i := 0) (N := some 13) (v := ?_) (a' := ?_) #[true,false,false,false,false] rfl rfl (by kernel_rfl) (fun _ _ _ h => h) (Or.inl ⟨by rfl, ?_⟩) hHeld ?_ ?_
       rotate_left
       ·
        rintro w' ⟨s0, s1, s2, s3, s4, s5⟩
        go_simp
        with_reducible rfl
       rotate_left
       ·
        simp only [Act.put, List.setIfInBounds_toArray, List.set_cons_zero, List.set_cons_succ, i64_w, i32_w]
        rfl
       refine take_ (i := 1) (N := some 14) (v := ?_) (a' := ?_) #[true,true,false,false,false] rfl rfl (by kernel_rfl) (fun _ _ _ h => h) (Or.inl ⟨by rfl, ?_⟩) hHeld ?_ ?_
       rotate_left
       ·
        rintro w' ⟨s0, s1, s2, s3, s4, s5⟩
        go_simp
        with_reducible rfl
       rotate_left
       ·
        simp only [Act.put, List.setIfInBounds_toArray, List.set_cons_zero, List.set_cons_succ, i64_w, i32_w]
        rfl
       refine take_ (i := 3) (N := some 16) (v := ?_) (a' := ?_) #[true,true,false,true,false] rfl rfl (by kernel_rfl) (fun _ _ _ h => h) (Or.inl ⟨by rfl, ?_⟩) hHeld ?_ ?_
       rotate_left
       ·
        rintro w' ⟨s0, s1, s2, s3, s4, s5⟩
        go_simp
        with_reducible rfl
       rotate_left
       ·
        simp only [Act.put, List.setIfInBounds_toArray, List.set_cons_zero, List.set_cons_succ, i64_w, i32_w]
        rfl
       refine one_ (i := 2) (N := some 15) #[true,true,true,true,false] rfl rfl (by kernel_rfl) (by decide) (fun K hK => ?_)
       refine goes_ Try.func50 (by kernel_rfl) rfl #[.agg #[.int .i64 ((rd_T46 l0 x9_1).f0), .int .i64 ((rd_T46 l0 x9_1).f1), .int .i64 ((rd_T46 l0 x9_1).f2)], .agg #[.int .i64 a1_0, .int .i64 a1_1, .int .i64 a1_2]] (by rfl) rfl rfl (by (try simp only [List.map_toArray, List.map_cons, List.map_nil]); first | done | rfl | (simp only [List.length_drop, List.length_take]; rfl)) ?_
       with_reducible refine (span_both.calls ((rd_T46 l0 x9_1).f0) ((rd_T46 l0 x9_1).f1) ((rd_T46 l0 x9_1).f2) a1_0 a1_1 a1_2 t133 t134 t135 _ A7.out).mono ?_
       rintro e w14 ⟨rfl, hb⟩
       refine ⟨_, rfl, ?_⟩
       have n0_ := Aside0.mk (blk_below BK130.out hb)
       have n1_ := Aside0.mk (blk_below BK132.out hb)
       have n2_ := Aside0.mk (below_step (HB.out) hb)
       clear BK130
       clear BK132
       clear HB
       have BK130 := n0_
       have BK132 := n1_
       have HB := n2_
       clear n0_ n1_ n2_
       (try clear hb)
       (try clear hb2)
       (try clear hk)
       (try clear hi)
       refine hK.out _ _ ⟨(blk_cell BK132.out 0).trans rfl, (blk_cell BK132.out 1).trans rfl, (blk_cell BK132.out 2).trans rfl, (blk_cell BK130.out 0).trans rfl, (blk_cell BK130.out 1).trans rfl, (blk_cell BK130.out 2).trans rfl⟩ (fun hHeld => ?_)
       clear hK K
       refine norm_ (a' := ?_) ?_ ?_
       rotate_left
       ·
        show Act.put _ (some 15) _ = _
        simp only [Act.put, List.setIfInBounds_toArray, List.set_cons_zero, List.set_cons_succ, i64_w, i32_w]
        rfl
       refine pure_ (i := 4) (N := some 17) (v := ?_) (a' := ?_) #[true,true,true,true,true] rfl rfl (by kernel_rfl) (fun _ _ _ h => h) (Or.inl ⟨by rfl, ?_⟩) ?_ ?_
       rotate_left
       ·
        intro w'
        go_simp
        with_reducible rfl
       rotate_left
       ·
        simp only [Act.put, List.setIfInBounds_toArray, List.set_cons_zero, List.set_cons_succ, i64_w, i32_w]
        rfl
       refine done_ (by kernel_rfl) ?_
       try go_wp2
       go_ret
       exact ⟨by first | rfl | (simp [errW_none, errW_some] <;> rfl) | (simp [*, errW_none, errW_some] <;> rfl), HB.out⟩
      ·
       rw [if_neg c8] at H
       have c8b0 : (t133 == a1_0 && (t134 == a1_1 && (t135 == a1_2))) = false := by simpa using c8
       (try (have c8b1 : decide (t133 = a1_0 && (t134 == a1_1 && (t135 == a1_2))) = false := by simpa using c8))
       (try (have c8b2 : (t133 == a1_0 && (t134 == a1_1 && (t135 == a1_2))) = false := by simpa using c8))
       (try (have c8b3 : ¬ (t133 = a1_0 && (t134 == a1_1 && (t135 == a1_2))) := by simpa using c8))
       clear c8
       have H' := Aside0.mk H
       clear H
       have p131 : 0 ≤ (x9_1 : Int) := of_decide_eq_true (by first | (with_reducible assumption) | assumption)
       have q131 : x9_1 < (l0.length : Int) := of_decide_eq_true (by first | (with_reducible assumption) | assumption)
       obtain ⟨ad131, e131, hx131_0, hx131_1, hx131_2⟩ := at_T46 HR0.out x9_1 p131 q131
       cases e131
       replace hx131_0 := (HB.out.cell (World.block_lt_of_cell? w _ hx131_0)).trans hx131_0
       replace hx131_1 := (HB.out.cell (World.block_lt_of_cell? w _ hx131_1)).trans hx131_1
       replace hx131_2 := (HB.out.cell (World.block_lt_of_cell? w _ hx131_2)).trans hx131_2
       replace p131 := eq_true p131
       replace q131 := eq_true q131
       try go_wp2_with (first | ((with_reducible refine gate_dst (N := 6) rfl ?_); refine box_event ?hg (N := 6) ?hd (cs := #[.int .i64 0, .int .i64 0, .int .i64 0]) (t := 46) ?hr ?_; (case hd => rfl); (case hg => rfl); (case hr => first | (go_simp; done) | (go_simp; rfl)); intro gb132 hg w15 hbox hb; have BK132 := Aside0.mk (hbox); have GW132 := Aside0.mk ((by rw [hg]; exact (below_size (HB.out)) : w.heap.size ≤ gb132)); have GE132 := Aside0.mk ((by rw [hg]; exact (below_size (HB.out)) : w.heap.size ≤ gb132)); replace HB := Aside0.mk (below_step (HB.out) hb); have NB130_132 := Aside0.mk ((by rw [hg]; exact Nat.ne_of_lt (blk_lt (g := gb130) (o := .cells #[.int .i64 a1_0, .int .i64 a1_1, .int .i64 a1_2] 46 (0, 0)) (BK130.out)) : gb130 ≠ gb132)); have NB132_130 := Aside0.mk ((by rw [hg]; exact Nat.ne_of_gt (blk_lt (g := gb130) (o := .cells #[.int .i64 a1_0, .int .i64 a1_1, .int .i64 a1_2] 46 (0, 0)) (BK130.out)) : gb132 ≠ gb130)); replace BK130 := Aside0.mk (blk_below BK130.out hb); clear hb hbox hg; have hnb16 := NB132_130.out; have hnc16 := NB130_132.out; obtain ⟨hcz17_0, hcz17_1, hcz17_2⟩ := blkc3 BK132.out; obtain ⟨hfz17_0, hfz17_1, hfz17_2⟩ := blkf3 BK132.out))
       have n0_ : Aside0 ((((w15.setCell ⟨gb132, 0, none⟩ (.int .i64 ((rd_T46 l0 x9_1).f0))).setCell ⟨gb132, 1, none⟩ (.int .i64 ((rd_T46 l0 x9_1).f1))).setCell ⟨gb132, 2, none⟩ (.int .i64 ((rd_T46 l0 x9_1).f2))).heap[gb130]? = some (.cells #[.int .i64 a1_0, .int .i64 a1_1, .int .i64 a1_2] 46 (0, 0))) := ⟨by (with_reducible repeat (first | refine blk_drewN ?_ _ | refine blk_drew ?_ | refine blk_alloc ?_ _)); refine blk_far ?_ NB130_132.out _; (with_reducible repeat (first | refine blk_drewN ?_ _ | refine blk_drew ?_ | refine blk_alloc ?_ _)); refine blk_far ?_ NB130_132.out _; (with_reducible repeat (first | refine blk_drewN ?_ _ | refine blk_drew ?_ | refine blk_alloc ?_ _)); refine blk_far ?_ NB130_132.out _; (with_reducible repeat (first | refine blk_drewN ?_ _ | refine blk_drew ?_ | refine blk_alloc ?_ _)); exact BK130.out⟩
       have n1_ : Aside0 ((((w15.setCell ⟨gb132, 0, none⟩ (.int .i64 ((rd_T46 l0 x9_1).f0))).setCell ⟨gb132, 1, none⟩ (.int .i64 ((rd_T46 l0 x9_1).f1))).setCell ⟨gb132, 2, none⟩ (.int .i64 ((rd_T46 l0 x9_1).f2))).heap[gb132]? = some (.cells #[.int .i64 ((rd_T46 l0 x9_1).f0), .int .i64 ((rd_T46 l0 x9_1).f1), .int .i64 ((rd_T46 l0 x9_1).f2)] 46 (0, 0))) := ⟨by (with_reducible repeat (first | refine blk_drewN ?_ _ | refine blk_drew ?_ | refine blk_alloc ?_ _)); refine blk_put (cs := #[.int .i64 ((rd_T46 l0 x9_1).f0), .int .i64 ((rd_T46 l0 x9_1).f1), .int .i64 0]) ?_ 2 _ rfl; (with_reducible repeat (first | refine blk_drewN ?_ _ | refine blk_drew ?_ | refine blk_alloc ?_ _)); refine blk_put (cs := #[.int .i64 ((rd_T46 l0 x9_1).f0), .int .i64 0, .int .i64 0]) ?_ 1 _ rfl; (with_reducible repeat (first | refine blk_drewN ?_ _ | refine blk_drew ?_ | refine blk_alloc ?_ _)); refine blk_put (cs := #[.int .i64 0, .int .i64 0, .int .i64 0]) ?_ 0 _ rfl; (with_reducible repeat (first | refine blk_drewN ?_ _ | refine blk_drew ?_ | refine blk_alloc ?_ _)); exact BK132.out⟩
       have n2_ : Aside0 (Below w.heap.size w (((w15.setCell ⟨gb132, 0, none⟩ (.int .i64 ((rd_T46 l0 x9_1).f0))).setCell ⟨gb132, 1, none⟩ (.int .i64 ((rd_T46 l0 x9_1).f1))).setCell ⟨gb132, 2, none⟩ (.int .i64 ((rd_T46 l0 x9_1).f2)))) := ⟨by repeat (first | (with_reducible first | exact HB.out | apply below_alloc | apply pw_below_drewN | apply below_drew1 | refine below_set ?_ GE130.out | refine below_set ?_ GE132.out) | exact HB.out)⟩
       (try clear BK130)
       (try clear BK132)
       (try clear HB)
       first | (rw [drewN_self (((w15.setCell ⟨gb132, 0, none⟩ (.int .i64 ((rd_T46 l0 x9_1).f0))).setCell ⟨gb132, 1, none⟩ (.int .i64 ((rd_T46 l0 x9_1).f1))).setCell ⟨gb132, 2, none⟩ (.int .i64 ((rd_T46 l0 x9_1).f2)))]; generalize hq_ : World.drewN (((w15.setCell ⟨gb132, 0, none⟩ (.int .i64 ((rd_T46 l0 x9_1).f0))).setCell ⟨gb132, 1, none⟩ (.int .i64 ((rd_T46 l0 x9_1).f1))).setCell ⟨gb132, 2, none⟩ (.int .i64 ((rd_T46 l0 x9_1).f2))) _ = w18; have m0_ : Aside0 (w18.heap[gb130]? = some (.cells #[.int .i64 a1_0, .int .i64 a1_1, .int .i64 a1_2] 46 (0, 0))) := ⟨by rw [← hq_]; first | exact Kd.R_drewN n0_.out _ | exact Kd.Q_drewN n0_.out _ | exact blk_drewN n0_.out _ | exact pw_below_drewN n0_.out _ | exact Kd.S_drewN n0_.out _ | exact n0_.out⟩; have m1_ : Aside0 (w18.heap[gb132]? = some (.cells #[.int .i64 ((rd_T46 l0 x9_1).f0), .int .i64 ((rd_T46 l0 x9_1).f1), .int .i64 ((rd_T46 l0 x9_1).f2)] 46 (0, 0))) := ⟨by rw [← hq_]; first | exact Kd.R_drewN n1_.out _ | exact Kd.Q_drewN n1_.out _ | exact blk_drewN n1_.out _ | exact pw_below_drewN n1_.out _ | exact Kd.S_drewN n1_.out _ | exact n1_.out⟩; have m2_ : Aside0 (Below w.heap.size w w18) := ⟨by rw [← hq_]; first | exact Kd.R_drewN n2_.out _ | exact Kd.Q_drewN n2_.out _ | exact blk_drewN n2_.out _ | exact pw_below_drewN n2_.out _ | exact Kd.S_drewN n2_.out _ | exact n2_.out⟩; clear hq_ n0_ n1_ n2_; have n0_ := m0_; have n1_ := m1_; have n2_ := m2_; clear m0_ m1_ m2_) | (generalize (((w15.setCell ⟨gb132, 0, none⟩ (.int .i64 ((rd_T46 l0 x9_1).f0))).setCell ⟨gb132, 1, none⟩ (.int .i64 ((rd_T46 l0 x9_1).f1))).setCell ⟨gb132, 2, none⟩ (.int .i64 ((rd_T46 l0 x9_1).f2))) = w18 at n0_ n1_ n2_ ⊢)
       have BK130 := n0_
       have BK132 := n1_
       have HB := n2_
       clear n0_ n1_ n2_
       have n0_ := Aside0.mk (blk_drew BK130.out)
       have n1_ := Aside0.mk (blk_drew BK132.out)
       have n2_ := Aside0.mk (below_drew1 HB.out)
       clear BK130
       clear BK132
       clear HB
       have BK130 := n0_
       have BK132 := n1_
       have HB := n2_
       clear n0_ n1_ n2_
       refine start_ (n := 5) (S := fun w' => w'.cell? ⟨gb132, 0, none⟩ = some (.int .i64 ((rd_T46 l0 x9_1).f0)) ∧ w'.cell? ⟨gb132, 1, none⟩ = some (.int .i64 ((rd_T46 l0 x9_1).f1)) ∧ w'.cell? ⟨gb132, 2, none⟩ = some (.int .i64 ((rd_T46 l0 x9_1).f2)) ∧ w'.cell? ⟨gb130, 0, none⟩ = some (.int .i64 a1_0) ∧ w'.cell? ⟨gb130, 1, none⟩ = some (.int .i64 a1_1) ∧ w'.cell? ⟨gb130, 2, none⟩ = some (.int .i64 a1_2)) (ds := []) #[false,false,false,false,false] (by kernel_rfl) rfl rfl ⟨(blk_cell BK132.out 0).trans rfl, (blk_cell BK132.out 1).trans rfl, (blk_cell BK132.out 2).trans rfl, (blk_cell BK130.out 0).trans rfl, (blk_cell BK130.out 1).trans rfl, (blk_cell BK130.out 2).trans rfl⟩ (fun hHeld => ?_)
       generalize w18.drew = w19 at BK130 BK132 HB hHeld ⊢
       refine take_ (i := 0) (N := some 13) (v := ?_) (a' := ?_) #[true,false,false,false,false] rfl rfl (by kernel_rfl) (fun _ _ _ h => h) (Or.inl ⟨by rfl, ?_⟩) hHeld ?_ ?_
       rotate_left
       ·
        rintro w' ⟨s0, s1, s2, s3, s4, s5⟩
        go_simp
        with_reducible rfl
       rotate_left
       ·
        simp only [Act.put, List.setIfInBounds_toArray, List.set_cons_zero, List.set_cons_succ, i64_w, i32_w]
        rfl
       refine take_ (i := 1) (N := some 14) (v := ?_) (a' := ?_) #[true,true,false,false,false] rfl rfl (by kernel_rfl) (fun _ _ _ h => h) (Or.inl ⟨by rfl, ?_⟩) hHeld ?_ ?_
       rotate_left
       ·
        rintro w' ⟨s0, s1, s2, s3, s4, s5⟩
        go_simp
        with_reducible rfl
       rotate_left
       ·
        simp only [Act.put, List.setIfInBounds_toArray, List.set_cons_zero, List.set_cons_succ, i64_w, i32_w]
        rfl
       refine take_ (i := 3) (N := some 16) (v := ?_) (a' := ?_) #[true,true,false,true,false] rfl rfl (by kernel_rfl) (fun _ _ _ h => h) (Or.inl ⟨by rfl, ?_⟩) hHeld ?_ ?_
       rotate_left
       ·
        rintro w' ⟨s0, s1, s2, s3, s4, s5⟩
        go_simp
        with_reducible rfl
       rotate_left
       ·
        simp only [Act.put, List.setIfInBounds_toArray, List.set_cons_zero, List.set_cons_succ, i64_w, i32_w]
        rfl
       refine one_ (i := 2) (N := some 15) #[true,true,true,true,false] rfl rfl (by kernel_rfl) (by decide) (fun K hK => ?_)
       refine goes_ Try.func50 (by kernel_rfl) rfl #[.agg #[.int .i64 ((rd_T46 l0 x9_1).f0), .int .i64 ((rd_T46 l0 x9_1).f1), .int .i64 ((rd_T46 l0 x9_1).f2)], .agg #[.int .i64 a1_0, .int .i64 a1_1, .int .i64 a1_2]] (by rfl) rfl rfl (by (try simp only [List.map_toArray, List.map_cons, List.map_nil]); first | done | rfl | (simp only [List.length_drop, List.length_take]; rfl)) ?_
       with_reducible refine (span_both.calls ((rd_T46 l0 x9_1).f0) ((rd_T46 l0 x9_1).f1) ((rd_T46 l0 x9_1).f2) a1_0 a1_1 a1_2 t133 t134 t135 _ A7.out).mono ?_
       rintro e w20 ⟨rfl, hb⟩
       refine ⟨_, rfl, ?_⟩
       have n0_ := Aside0.mk (blk_below BK130.out hb)
       have n1_ := Aside0.mk (blk_below BK132.out hb)
       have n2_ := Aside0.mk (below_step (HB.out) hb)
       clear BK130
       clear BK132
       clear HB
       have BK130 := n0_
       have BK132 := n1_
       have HB := n2_
       clear n0_ n1_ n2_
       (try clear hb)
       (try clear hb2)
       (try clear hk)
       (try clear hi)
       refine hK.out _ _ ⟨(blk_cell BK132.out 0).trans rfl, (blk_cell BK132.out 1).trans rfl, (blk_cell BK132.out 2).trans rfl, (blk_cell BK130.out 0).trans rfl, (blk_cell BK130.out 1).trans rfl, (blk_cell BK130.out 2).trans rfl⟩ (fun hHeld => ?_)
       clear hK K
       refine norm_ (a' := ?_) ?_ ?_
       rotate_left
       ·
        show Act.put _ (some 15) _ = _
        simp only [Act.put, List.setIfInBounds_toArray, List.set_cons_zero, List.set_cons_succ, i64_w, i32_w]
        rfl
       refine pure_ (i := 4) (N := some 17) (v := ?_) (a' := ?_) #[true,true,true,true,true] rfl rfl (by kernel_rfl) (fun _ _ _ h => h) (Or.inl ⟨by rfl, ?_⟩) ?_ ?_
       rotate_left
       ·
        intro w'
        go_simp
        with_reducible rfl
       rotate_left
       ·
        simp only [Act.put, List.setIfInBounds_toArray, List.set_cons_zero, List.set_cons_succ, i64_w, i32_w]
        rfl
       refine done_ (by kernel_rfl) ?_
       try go_wp2
       go_roundg k1
       case measure => have := HK1.out; omega
       case rel => exact ⟨(wrap64 (x9_1 + 1)), (by first | rfl | (simp; done) | (simp [*]; done)), H', ⟨by have := HK1.out; omega⟩, ⟨BK130.out⟩, ⟨HB.out⟩⟩
     ·
      rw [if_neg c6] at H
      exact absurd H (by simp)
    ·
     rw [if_neg c5] at H
     exact absurd H (by simp)
   ·
    rw [if_neg c4] at H
    have c4b0 : decide (x9_1 < (l0.length : Int)) = false := decide_eq_false c4
    clear c4
    obtain rfl := Option.some.inj H
    go_wp2
    go_ret
    exact ⟨by first | rfl | (simp [errW_none, errW_some] <;> rfl) | (simp [*, errW_none, errW_some] <;> rfl), HB.out⟩
end Go.Proofs.Ytjlbgopgeepiaaa.PConf
namespace Go.Proofs.Ytjlbgopgeepiaaa.PConf
open Go.RowKit Go.Proofs.YtjlbgopgeepiaaaW.PrintWords Go.Proofs.YtjlbgopgeepiaaaW.PrintLast Go.Proofs.YtjlbgopgeepiaaaW.PrintMore
attribute [local go_sem] max2_int min2_int max_two min_two max_three min_three max_four min_four plus_setCell_drewN plus_cell_same   -- for this text's walks alone
set_option linter.unusedVariables false
set_option linter.unusedSimpArgs false
def group_row.f (a0_0 : Int) (a0_1 : Int) (a0_2 : Int) : Option (Int × Int × Int) := some (a0_0, a0_1, wrap64 (a0_1 + a0_2))
set_option maxHeartbeats 8000000 in
set_option maxRecDepth 100000 in
theorem group_row.calls (a0_0 : Int) (a0_1 : Int) (a0_2 : Int) (r1 : Int) (r2 : Int) (r3 : Int) (w : World) (h : group_row.f a0_0 a0_1 a0_2 = some (r1, r2, r3)) :
  Calls Try.prog 41 #[.agg #[.int .i64 a0_0, .int .i64 a0_1, .int .i64 a0_2]] w fun e w' => e = .returned (.agg #[.int .i64 r1, .int .i64 r2, .int .i64 r3]) ∧ Below w.heap.size w w' := by
 have hu48 := Try.underlying48
 have hu46 := Try.underlying46
 have HB := Aside0.mk (Below.refl w.heap.size w)
 have H : (some (a0_0, a0_1, wrap64 (a0_1 + a0_2))) = some (r1, r2, r3) := h
 clear h
 simp only [Option.some.injEq, Prod.mk.injEq] at H
 obtain ⟨rfl, rfl, rfl⟩ := H
 go_enter Try.func41, Try.ntmps41
 go_wp2_with (first | ((with_reducible refine gate_dst (N := 1) rfl ?_); refine box_event ?hg (N := 1) ?hd (cs := #[.int .i64 a0_0, .int .i64 a0_1, .int .i64 a0_2]) (t := 48) ?hr ?_; (case hd => rfl); (case hg => rfl); (case hr => first | (go_simp; done) | (go_simp; rfl)); intro gb136 hg w2 hbox hb; have BK136 := Aside0.mk (hbox); have GW136 := Aside0.mk ((by rw [hg]; exact (below_size (HB.out)) : w.heap.size ≤ gb136)); have GE136 := Aside0.mk ((by rw [hg]; exact (below_size (HB.out)) : w.heap.size ≤ gb136)); replace HB := Aside0.mk (below_step (HB.out) hb); clear hb hbox hg) | ((with_reducible refine gate_dst (N := 2) rfl ?_); refine box_event ?hg (N := 2) ?hd (cs := #[.int .i64 0, .int .i64 0, .int .i64 0]) (t := 46) ?hr ?_; (case hd => rfl); (case hg => rfl); (case hr => first | (go_simp; done) | (go_simp; rfl)); intro gb137 hg w3 hbox hb; have BK137 := Aside0.mk (hbox); have GW137 := Aside0.mk ((by rw [hg]; exact (below_size (HB.out)) : w.heap.size ≤ gb137)); have GE137 := Aside0.mk ((by rw [hg]; exact (below_size (HB.out)) : w.heap.size ≤ gb137)); replace HB := Aside0.mk (below_step (HB.out) hb); have NB136_137 := Aside0.mk ((by rw [hg]; exact Nat.ne_of_lt (blk_lt (g := gb136) (o := .cells #[.int .i64 a0_0, .int .i64 a0_1, .int .i64 a0_2] 48 (0, 0)) (BK136.out)) : gb136 ≠ gb137)); have NB137_136 := Aside0.mk ((by rw [hg]; exact Nat.ne_of_gt (blk_lt (g := gb136) (o := .cells #[.int .i64 a0_0, .int .i64 a0_1, .int .i64 a0_2] 48 (0, 0)) (BK136.out)) : gb137 ≠ gb136)); replace BK136 := Aside0.mk (blk_below BK136.out hb); clear hb hbox hg; have hnb4 := NB136_137.out; have hnc4 := NB137_136.out; obtain ⟨hcz5_0, hcz5_1, hcz5_2⟩ := blkc3 BK136.out; obtain ⟨hfz5_0, hfz5_1, hfz5_2⟩ := blkf3 BK136.out; obtain ⟨hcz6_0, hcz6_1, hcz6_2⟩ := blkc3 BK137.out; obtain ⟨hfz6_0, hfz6_1, hfz6_2⟩ := blkf3 BK137.out))
 refine bodyPost_ret (results_cell_row rfl _ _ gb137 46 #[.int .i64 a0_0, .int .i64 a0_1, .int .i64 (wrap64 (a0_1 + a0_2))] (0, 0) _ rfl (by (with_reducible repeat (first | refine blk_drewN ?_ _ | refine blk_drew ?_ | refine blk_alloc ?_ _)); refine blk_put (cs := #[.int .i64 a0_0, .int .i64 a0_1, .int .i64 0]) ?_ 2 _ rfl; (with_reducible repeat (first | refine blk_drewN ?_ _ | refine blk_drew ?_ | refine blk_alloc ?_ _)); refine blk_put (cs := #[.int .i64 a0_0, .int .i64 0, .int .i64 0]) ?_ 1 _ rfl; (with_reducible repeat (first | refine blk_drewN ?_ _ | refine blk_drew ?_ | refine blk_alloc ?_ _)); refine blk_put (cs := #[.int .i64 0, .int .i64 0, .int .i64 0]) ?_ 0 _ rfl; (with_reducible repeat (first | refine blk_drewN ?_ _ | refine blk_drew ?_ | refine blk_alloc ?_ _)); exact BK137.out) Try.underlying46 rfl (by kernel_rfl)) rfl ?_
 exact ⟨by first | rfl | (simp [errW_none, errW_some] <;> rfl) | (simp [*, errW_none, errW_some] <;> rfl), by repeat (first | (with_reducible first | exact HB.out | apply below_alloc | apply pw_below_drewN | apply below_drew1 | refine below_set ?_ GE136.out | refine below_set ?_ GE137.out) | exact HB.out)⟩
end Go.Proofs.Ytjlbgopgeepiaaa.PConf
namespace Go.Proofs.Ytjlbgopgeepiaaa.PConf
open Go.RowKit Go.Proofs.YtjlbgopgeepiaaaW.PrintWords Go.Proofs.YtjlbgopgeepiaaaW.PrintLast Go.Proofs.YtjlbgopgeepiaaaW.PrintMore
attribute [local go_sem] max2_int min2_int max_two min_two max_three min_three max_four min_four plus_setCell_drewN plus_cell_same   -- for this text's walks alone
set_option linter.unusedVariables false
set_option linter.unusedSimpArgs false
mutual
def group_Check.l0 : Nat → List (S48) → List (S46) → List (S48) → Int → Int → Option (Int)
 | 0, _, _, _, _, _ => none
 | k + 1, x0, x1, x8, x9, x10 => if x10 < x9 then (if 0 ≤ x10 then (if x10 < (x8.length : Int) then ((group_amiss.f k ((rd_T48 x8 x10).f0) ((rd_T48 x8 x10).f1) ((rd_T48 x8 x10).f2)).bind fun t140 => (if t140 = 0 then (if x10 > 0 then (if 0 ≤ (wrap64 (x10 - 1)) then (if (wrap64 (x10 - 1)) < (x0.length : Int) then ((group_behind.f ((rd_T48 x8 x10).f0) ((rd_T48 x8 x10).f1) ((rd_T48 x8 x10).f2) ((rd_T48 x0 (wrap64 (x10 - 1))).f0) ((rd_T48 x0 (wrap64 (x10 - 1))).f1) ((rd_T48 x0 (wrap64 (x10 - 1))).f2)).bind fun t142 => (group_Check.j1 k x0 x1 x8 x9 x10 (!t142) ((rd_T48 x8 x10).f0) ((rd_T48 x8 x10).f1) ((rd_T48 x8 x10).f2))) else (none)) else (none)) else (group_Check.j1 k x0 x1 x8 x9 x10 false ((rd_T48 x8 x10).f0) ((rd_T48 x8 x10).f1) ((rd_T48 x8 x10).f2))) else (some t140))) else (none)) else (none)) else (some 0)
def group_Check.j1 : Nat → List (S48) → List (S46) → List (S48) → Int → Int → Bool → Int → Int → Int → Option (Int)
 | 0, _, _, _, _, _, _, _, _, _ => none
 | k + 1, x0, x1, x8, x9, x10, x21, x140000, x140001, x140002 => if x21 = true then (some 2) else ((group_row.f x140000 x140001 x140002).bind fun bt143 => ((span_Covers.f k x1 bt143.1 bt143.2.1 bt143.2.2).bind fun t146 => (if t146 = true then (group_Check.l0 k x0 x1 x8 x9 (wrap64 (x10 + 1))) else (some 5))))
end
def group_Check.f (k : Nat) (l0 : List (S48)) (l1 : List (S46)) : Option (Int) := group_Check.l0 k l0 l1 l0 (l0.length : Int) 0
theorem group_Check.mono_l : ∀ k, (∀ y0 y1 y2 y3 y4, LeO (group_Check.l0 k y0 y1 y2 y3 y4) (group_Check.l0 (k + 1) y0 y1 y2 y3 y4)) ∧ (∀ y0 y1 y2 y3 y4 y5 y6 y7 y8, LeO (group_Check.j1 k y0 y1 y2 y3 y4 y5 y6 y7 y8) (group_Check.j1 (k + 1) y0 y1 y2 y3 y4 y5 y6 y7 y8))
 | 0 => ⟨fun _ _ _ _ _ r h => by simp [group_Check.l0] at h, fun _ _ _ _ _ _ _ _ _ r h => by simp [group_Check.j1] at h⟩
 | k + 1 => by
  obtain ⟨ih0, ih1⟩ := group_Check.mono_l k
  refine ⟨?_, ?_⟩
  ·
   intro y0 y1 y2 y3 y4
   unfold group_Check.l0
   repeat' first
   | (with_reducible exact ih0 _ _ _ _ _)
   | (with_reducible exact ih1 _ _ _ _ _ _ _ _ _)
   | (with_reducible exact group_amiss.mono _ _ _ _)
   | (with_reducible exact span_Covers.mono _ _ _ _ _)
   | (with_reducible exact LeO.refl _)
   | (with_reducible exact LeO.none _)
   | (with_reducible refine LeO.ite ?_ ?_)
   | (with_reducible refine LeO.bind ?_ (fun _ => ?_))
   | exact ih0 _ _ _ _ _
   | exact ih1 _ _ _ _ _ _ _ _ _
   | exact group_amiss.mono _ _ _ _
   | exact span_Covers.mono _ _ _ _ _
   | exact LeO.none _
   | refine LeO.ite ?_ ?_
   | refine LeO.bind ?_ (fun _ => ?_)
  ·
   intro y0 y1 y2 y3 y4 y5 y6 y7 y8
   unfold group_Check.j1
   repeat' first
   | (with_reducible exact ih0 _ _ _ _ _)
   | (with_reducible exact ih1 _ _ _ _ _ _ _ _ _)
   | (with_reducible exact group_amiss.mono _ _ _ _)
   | (with_reducible exact span_Covers.mono _ _ _ _ _)
   | (with_reducible exact LeO.refl _)
   | (with_reducible exact LeO.none _)
   | (with_reducible refine LeO.ite ?_ ?_)
   | (with_reducible refine LeO.bind ?_ (fun _ => ?_))
   | exact ih0 _ _ _ _ _
   | exact ih1 _ _ _ _ _ _ _ _ _
   | exact group_amiss.mono _ _ _ _
   | exact span_Covers.mono _ _ _ _ _
   | exact LeO.none _
   | refine LeO.ite ?_ ?_
   | refine LeO.bind ?_ (fun _ => ?_)
theorem group_Check.mono : ∀ a0 a1 k, LeO (group_Check.f k a0 a1) (group_Check.f (k + 1) a0 a1) := by
 intro a0 a1 k
 obtain ⟨ih0, ih1⟩ := group_Check.mono_l k
 unfold group_Check.f
 repeat' first
   | (with_reducible exact ih0 _ _ _ _ _)
   | (with_reducible exact ih1 _ _ _ _ _ _ _ _ _)
   | (with_reducible exact group_amiss.mono _ _ _ _)
   | (with_reducible exact span_Covers.mono _ _ _ _ _)
   | (with_reducible exact LeO.refl _)
   | (with_reducible exact LeO.none _)
   | (with_reducible refine LeO.ite ?_ ?_)
   | (with_reducible refine LeO.bind ?_ (fun _ => ?_))
   | exact ih0 _ _ _ _ _
   | exact ih1 _ _ _ _ _ _ _ _ _
   | exact group_amiss.mono _ _ _ _
   | exact span_Covers.mono _ _ _ _ _
   | exact LeO.none _
   | refine LeO.ite ?_ ?_
   | refine LeO.bind ?_ (fun _ => ?_)
def group_Check.T7 : Bool × List (List Nat × List Nat) := (true, [([], []), ([0], [0]), ([1], [1]), ([2], [2]), ([2], [2]), ([2], [2]), ([5, 2], [2, 5]), ([4, 6, 2], [2, 4, 6]), ([7, 2], [2, 7]), ([3, 8, 2, 2], [2, 3, 8]), ([9, 2], [2, 9]), ([2, 10], [2, 10]), ([11, 9], [11])])
def group_Check.B7 : List Nat := [0, 1, 3, 7, 7, 7, 39, 119, 247, 511, 1023, 2047, 4095]
theorem group_Check.tab7 : rtab .any (opsOf Try.f21 7) = group_Check.T7 := by kernel_rfl
theorem group_Check.bits7 : waitsOk group_Check.T7.2 group_Check.B7 = true := by kernel_rfl
set_option maxHeartbeats 8000000 in
set_option maxRecDepth 100000 in
theorem group_Check.calls (k : Nat) (A0 : Option Addr) (c0 : Nat) (l0 : List (S48)) (A1 : Option Addr) (c1 : Nat) (l1 : List (S46)) (r : Int) (w : World) (hr0 : Kd.C k48 w A0 l0.length l0) (hc0 : l0.length ≤ c0) (hr1 : Kd.C k46 w A1 l1.length l1) (hc1 : l1.length ≤ c1) (h : group_Check.f k l0 l1 = some r) :
  Calls Try.prog 21 #[.slice A0 l0.length c0, .slice A1 l1.length c1] w fun e w' => e = .returned (.int .i64 r) ∧ Below w.heap.size w w' := by
 have hu48 := Try.underlying48
 have HR0 := Aside0.mk hr0
 have HC0 := Aside0.mk hc0
 clear hr0 hc0
 have HR1 := Aside0.mk hr1
 have HC1 := Aside0.mk hc1
 clear hr1 hc1
 have HB := Aside0.mk (Below.refl w.heap.size w)
 have H : (group_Check.l0 k l0 l1 l0 (l0.length : Int) 0) = some r := h
 clear h
 have H' := Aside0.mk H
 clear H
 go_enter Try.func21, Try.ntmps21
 go_wp2
 go_loopg [10] k (fun kq v10 w' => ∃ (x10_1 : Int), v10 = .int .i64 x10_1 ∧ Aside0 (group_Check.l0 kq l0 l1 l0 (l0.length : Int) x10_1 = some r) ∧ Aside0 (kq ≤ k) ∧ Aside0 (Below w.heap.size w w'))
 case atStart => exact ⟨(0), (by first | rfl | (simp; done) | (simp [*]; done)), H', ⟨Nat.le_refl _⟩, ⟨HB.out⟩⟩
 case round =>
  clear H'
  (try clear c1)
  obtain ⟨x10_1, rfl, HA, HK1, HB⟩ := hrel
  cases gk with
  | zero => exact absurd HA.out (by simp [group_Check.l0])
  | succ k1 =>
   have H := HA.out
   clear HA
   simp only [group_Check.l0] at H
   by_cases c3 : x10_1 < (l0.length : Int)
   ·
    rw [if_pos c3] at H
    have c3b0 : decide (x10_1 < (l0.length : Int)) = true := decide_eq_true c3
    clear c3
    by_cases c4 : 0 ≤ x10_1
    ·
     rw [if_pos c4] at H
     have c4b0 : decide (0 ≤ x10_1) = true := decide_eq_true c4
     clear c4
     by_cases c5 : x10_1 < (l0.length : Int)
     ·
      rw [if_pos c5] at H
      have c5b0 : decide (x10_1 < (l0.length : Int)) = true := decide_eq_true c5
      clear c5
      replace H := Option.bind_eq_some_iff.mp H
      obtain ⟨t140, A60, H⟩ := H
      have A6 := Aside0.mk A60
      clear A60
      by_cases c7 : t140 = 0
      ·
       rw [if_pos c7] at H
       have c7b0 : (t140 == 0) = true := beq_iff_eq.mpr c7
       have c7b1 : (t140 != 0) = false := bne_eq_false_iff_eq.mpr c7
       clear c7
       have HC8 := Aside0.mk H
       clear H
       have p138 : 0 ≤ (x10_1 : Int) := of_decide_eq_true (by first | (with_reducible assumption) | assumption)
       have q138 : x10_1 < (l0.length : Int) := of_decide_eq_true (by first | (with_reducible assumption) | assumption)
       obtain ⟨ad138, e138, hx138_0, hx138_1, hx138_2⟩ := at_T48 HR0.out x10_1 p138 q138
       cases e138
       replace hx138_0 := (HB.out.cell (World.block_lt_of_cell? w _ hx138_0)).trans hx138_0
       replace hx138_1 := (HB.out.cell (World.block_lt_of_cell? w _ hx138_1)).trans hx138_1
       replace hx138_2 := (HB.out.cell (World.block_lt_of_cell? w _ hx138_2)).trans hx138_2
       replace p138 := eq_true p138
       replace q138 := eq_true q138
       go_upto_region 7 with (first | ((with_reducible refine gate_dst (N := 6) rfl ?_); refine box_event ?hg (N := 6) ?hd (cs := #[.int .i64 0, .int .i64 0, .int .i64 0]) (t := 48) ?hr ?_; (case hd => rfl); (case hg => rfl); (case hr => first | (go_simp; done) | (go_simp; rfl)); intro gb139 hg w9 hbox hb; have BK139 := Aside0.mk (hbox); have GW139 := Aside0.mk ((by rw [hg]; exact (below_size (HB.out)) : w.heap.size ≤ gb139)); have GE139 := Aside0.mk ((by rw [hg]; exact (below_size (HB.out)) : w.heap.size ≤ gb139)); replace HB := Aside0.mk (below_step (HB.out) hb); clear hb hbox hg; obtain ⟨hcz10_0, hcz10_1, hcz10_2⟩ := blkc3 BK139.out; obtain ⟨hfz10_0, hfz10_1, hfz10_2⟩ := blkf3 BK139.out) | ((with_reducible refine gate_callee (f := 38) rfl ?_); refine goesL_ (some 16) rfl rfl Try.func38 (by kernel_rfl) rfl #[.agg #[.int .i64 ((rd_T48 l0 x10_1).f0), .int .i64 ((rd_T48 l0 x10_1).f1), .int .i64 ((rd_T48 l0 x10_1).f2)]] rfl (by (try simp only [List.map_toArray, List.map_cons, List.map_nil]); first | done | rfl | (simp only [List.length_drop, List.length_take]; rfl)) ?_; (with_reducible refine (group_amiss.calls k1 ((rd_T48 l0 x10_1).f0) ((rd_T48 l0 x10_1).f1) ((rd_T48 l0 x10_1).f2) t140 _ A6.out).mono ?_); rintro e w11 ⟨rfl, hb⟩; refine ⟨_, rfl, ?_⟩; replace BK139 := Aside0.mk (blk_below (g := gb139) (o := .cells #[.int .i64 ((rd_T48 l0 x10_1).f0), .int .i64 ((rd_T48 l0 x10_1).f1), .int .i64 ((rd_T48 l0 x10_1).f2)] 48 (0, 0)) (by (with_reducible repeat (first | refine blk_drewN ?_ _ | refine blk_drew ?_ | refine blk_alloc ?_ _)); refine blk_put (cs := #[.int .i64 ((rd_T48 l0 x10_1).f0), .int .i64 ((rd_T48 l0 x10_1).f1), .int .i64 0]) ?_ 2 _ rfl; (with_reducible repeat (first | refine blk_drewN ?_ _ | refine blk_drew ?_ | refine blk_alloc ?_ _)); refine blk_put (cs := #[.int .i64 ((rd_T48 l0 x10_1).f0), .int .i64 0, .int .i64 0]) ?_ 1 _ rfl; (with_reducible repeat (first | refine blk_drewN ?_ _ | refine blk_drew ?_ | refine blk_alloc ?_ _)); refine blk_put (cs := #[.int .i64 0, .int .i64 0, .int .i64 0]) ?_ 0 _ rfl; (with_reducible repeat (first | refine blk_drewN ?_ _ | refine blk_drew ?_ | refine blk_alloc ?_ _)); exact BK139.out) hb); replace HB := Aside0.mk (below_step (by repeat (first | (with_reducible first | exact HB.out | apply below_alloc | apply pw_below_drewN | apply below_drew1 | refine below_set ?_ GE139.out) | exact HB.out)) hb); (try clear hb); (try clear hi)))
       (try simp only [Act.put, List.setIfInBounds_toArray, List.set_cons_zero, List.set_cons_succ])
       go_cut [21] (fun v21 wc => ∃ (kq : Nat) (x21_7 : Bool), v21 = .bool x21_7 ∧ Aside0 (group_Check.j1 kq l0 l1 l0 (l0.length : Int) x10_1 x21_7 ((rd_T48 l0 x10_1).f0) ((rd_T48 l0 x10_1).f1) ((rd_T48 l0 x10_1).f2) = some r) ∧ Aside0 (kq ≤ k1) ∧ Aside0 (wc.heap[gb139]? = some (.cells #[.int .i64 ((rd_T48 l0 x10_1).f0), .int .i64 ((rd_T48 l0 x10_1).f1), .int .i64 ((rd_T48 l0 x10_1).f2)] 48 (0, 0))) ∧ Aside0 (Below w.heap.size w wc))
       case first =>
        have H := HC8.out
        clear HC8
        by_cases c12 : x10_1 > 0
        ·
         rw [if_pos c12] at H
         have c12b0 : decide (0 < x10_1) = true := decide_eq_true c12
         clear c12
         (first | rw [c12b0] | (simp only [i64_w, i32_w]; rw [c12b0]) | skip)
         obtain ⟨ji13, hji13⟩ : ∃ j_ : Int, (wrap64 (x10_1 - 1)) = j_ := ⟨_, rfl⟩
         replace H : (if 0 ≤ (ji13) then (if (ji13) < (l0.length : Int) then ((group_behind.f ((rd_T48 l0 x10_1).f0) ((rd_T48 l0 x10_1).f1) ((rd_T48 l0 x10_1).f2) ((rd_T48 l0 (ji13)).f0) ((rd_T48 l0 (ji13)).f1) ((rd_T48 l0 (ji13)).f2)).bind fun t142 => (group_Check.j1 k1 l0 l1 l0 (l0.length : Int) x10_1 (!t142) ((rd_T48 l0 x10_1).f0) ((rd_T48 l0 x10_1).f1) ((rd_T48 l0 x10_1).f2))) else (none)) else (none)) = some r := by first | (rw [hji13] at H; exact H) | (simp only [hji13] at H ⊢; exact H)
         have hji13w : (IntKind.i64.wrap (x10_1 - 1)) = ji13 := (i64_w _).trans hji13
         by_cases c14 : 0 ≤ (ji13)
         ·
          rw [if_pos c14] at H
          have c14b0 : decide (0 ≤ (ji13)) = true := decide_eq_true c14
          clear c14
          by_cases c15 : (ji13) < (l0.length : Int)
          ·
           rw [if_pos c15] at H
           have c15b0 : decide ((ji13) < (l0.length : Int)) = true := decide_eq_true c15
           clear c15
           replace H := Option.bind_eq_some_iff.mp H
           obtain ⟨t142, A160, H⟩ := H
           have A16 := Aside0.mk A160
           clear A160
           have H' := Aside0.mk H
           clear H
           try go_wp2
           have n0_ := Aside0.mk (blk_drew BK139.out)
           have n1_ := Aside0.mk (below_drew1 HB.out)
           clear BK139
           clear HB
           have BK139 := n0_
           have HB := n1_
           clear n0_ n1_
           have p141 : 0 ≤ ((ji13) : Int) := of_decide_eq_true (by first | (with_reducible assumption) | assumption)
           have q141 : (ji13) < (l0.length : Int) := of_decide_eq_true (by first | (with_reducible assumption) | assumption)
           obtain ⟨ad141, e141, hx141_0, hx141_1, hx141_2⟩ := at_T48 HR0.out (ji13) p141 q141
           have hw141_2 := hx141_2
           have hw141_1 := hx141_1
           have hw141_0 := hx141_0
           obtain rfl : ad138 = ad141 := (by injection e141)
           replace hx141_0 := (HB.out.cell (World.block_lt_of_cell? w _ hx141_0)).trans hx141_0
           replace hx141_1 := (HB.out.cell (World.block_lt_of_cell? w _ hx141_1)).trans hx141_1
           replace hx141_2 := (HB.out.cell (World.block_lt_of_cell? w _ hx141_2)).trans hx141_2
           replace p141 := eq_true p141
           replace q141 := eq_true q141
           refine start_ (n := 13) (S := fun w' => w'.cell? ⟨gb139, 0, none⟩ = some (.int .i64 ((rd_T48 l0 x10_1).f0)) ∧ w'.cell? ⟨gb139, 1, none⟩ = some (.int .i64 ((rd_T48 l0 x10_1).f1)) ∧ w'.cell? ⟨gb139, 2, none⟩ = some (.int .i64 ((rd_T48 l0 x10_1).f2)) ∧ w'.cell? (ad138.add (((ji13)).toNat * 3)) = some (.int .i64 ((rd_T48 l0 (ji13)).f0)) ∧ w'.cell? ⟨(ad138.add (((ji13)).toNat * 3)).block, (ad138.add (((ji13)).toNat * 3)).off + 1, none⟩ = some (.int .i64 ((rd_T48 l0 (ji13)).f1)) ∧ w'.cell? ⟨(ad138.add (((ji13)).toNat * 3)).block, (ad138.add (((ji13)).toNat * 3)).off + 2, none⟩ = some (.int .i64 ((rd_T48 l0 (ji13)).f2))) (ds := []) #[false,false,false,false,false,false,false,false,false,false,false,false,false] (by kernel_rfl) rfl rfl ⟨(blk_cell BK139.out 0).trans rfl, (blk_cell BK139.out 1).trans rfl, (blk_cell BK139.out 2).trans rfl, ((HB.out.cell (World.block_lt_of_cell? w _ hw141_0)).trans hw141_0), ((HB.out.cell (World.block_lt_of_cell? w _ hw141_1)).trans hw141_1), ((HB.out.cell (World.block_lt_of_cell? w _ hw141_2)).trans hw141_2)⟩ (fun hHeld => ?_); refine with_tabW group_Check.tab7 group_Check.bits7 (fun HT_ HW_ => ?_)
           generalize w11.drew = w17 at BK139 HB hx141_0 hx141_1 hx141_2 hHeld ⊢
           refine pure_ (i := 0) (N := some 22) (v := ?_) (a' := ?_) #[true,false,false,false,false,false,false,false,false,false,false,false,false] rfl rfl (any_of HT_.out (by kernel_rfl)) (fun _ _ _ h => h) (Or.inl ⟨by rfl, ?_⟩) ?_ ?_
           rotate_left
           ·
            intro w'
            go_simp
            with_reducible rfl
           rotate_left
           ·
            simp only [Act.put, List.setIfInBounds_toArray, List.set_cons_zero, List.set_cons_succ, i64_w, i32_w]
            rfl
           refine pure_ (i := 1) (N := some 23) (v := ?_) (a' := ?_) #[true,true,false,false,false,false,false,false,false,false,false,false,false] rfl rfl (any_of HT_.out (by kernel_rfl)) (fun _ _ _ h => h) (Or.inl ⟨by rfl, ?_⟩) ?_ ?_
           rotate_left
           ·
            intro w'
            go_simp
            with_reducible rfl
           rotate_left
           ·
            simp only [Act.put, List.setIfInBounds_toArray, List.set_cons_zero, List.set_cons_succ, i64_w, i32_w]
            rfl
           refine pure_ (i := 2) (N := some 24) (v := ?_) (a' := ?_) #[true,true,true,false,false,false,false,false,false,false,false,false,false] rfl rfl (any_of HT_.out (by kernel_rfl)) (fun _ _ _ h => h) (Or.inl ⟨by rfl, ?_⟩) ?_ ?_
           rotate_left
           ·
            intro w'
            go_simp
            with_reducible rfl
           rotate_left
           ·
            simp only [Act.put, List.setIfInBounds_toArray, List.set_cons_zero, List.set_cons_succ, i64_w, i32_w]
            rfl
           refine pure_ (i := 4) (N := some 26) (v := ?_) (a' := ?_) #[true,true,true,false,true,false,false,false,false,false,false,false,false] rfl rfl (any_of HT_.out (by kernel_rfl)) (fun _ _ _ h => h) (Or.inl ⟨by rfl, ?_⟩) ?_ ?_
           rotate_left
           ·
            intro w'
            go_simp
            with_reducible rfl
           rotate_left
           ·
            simp only [Act.put, List.setIfInBounds_toArray, List.set_cons_zero, List.set_cons_succ, i64_w, i32_w]
            rfl
           refine pure_ (i := 5) (N := some 27) (v := ?_) (a' := ?_) #[true,true,true,false,true,true,false,false,false,false,false,false,false] rfl rfl (any_of HT_.out (by kernel_rfl)) (fun _ _ _ h => h) (Or.inl ⟨by rfl, ?_⟩) ?_ ?_
           rotate_left
           ·
            intro w'
            go_simp
            with_reducible rfl
           rotate_left
           ·
            simp only [Act.put, List.setIfInBounds_toArray, List.set_cons_zero, List.set_cons_succ, i64_w, i32_w]
            rfl
           refine pure_ (i := 6) (N := some 28) (v := ?_) (a' := ?_) #[true,true,true,false,true,true,true,false,false,false,false,false,false] rfl rfl (any_of HT_.out (by kernel_rfl)) (fun _ _ _ h => h) (Or.inl ⟨by rfl, ?_⟩) ?_ ?_
           rotate_left
           ·
            intro w'
            go_simp
            with_reducible rfl
           rotate_left
           ·
            simp only [Act.put, List.setIfInBounds_toArray, List.set_cons_zero, List.set_cons_succ, i64_w, i32_w]
            rfl
           refine pure_ (i := 7) (N := some 29) (v := ?_) (a' := ?_) #[true,true,true,false,true,true,true,true,false,false,false,false,false] rfl rfl (any_of HT_.out (by kernel_rfl)) (fun _ _ _ h => h) (Or.inl ⟨by rfl, ?_⟩) ?_ ?_
           rotate_left
           ·
            intro w'
            go_simp
            with_reducible rfl
           rotate_left
           ·
            simp only [Act.put, List.setIfInBounds_toArray, List.set_cons_zero, List.set_cons_succ, i64_w, i32_w]
            rfl
           refine take_ (i := 3) (N := some 25) (v := ?_) (a' := ?_) #[true,true,true,true,true,true,true,true,false,false,false,false,false] rfl rfl (take_ofW HT_.out HW_.out (by kernel_rfl)) (fun _ _ _ h => h) (Or.inl ⟨by rfl, ?_⟩) hHeld ?_ ?_
           rotate_left
           ·
            rintro w' ⟨s0, s1, s2, s3, s4, s5⟩
            go_simp
            with_reducible rfl
           rotate_left
           ·
            simp only [Act.put, List.setIfInBounds_toArray, List.set_cons_zero, List.set_cons_succ, i64_w, i32_w]
            rfl
           refine take_ (i := 8) (N := some 30) (v := ?_) (a' := ?_) #[true,true,true,true,true,true,true,true,true,false,false,false,false] rfl rfl (take_ofW HT_.out HW_.out (by kernel_rfl)) (fun _ _ _ h => h) (Or.inl ⟨by rfl, ?_⟩) hHeld ?_ ?_
           rotate_left
           ·
            rintro w' ⟨s0, s1, s2, s3, s4, s5⟩
            go_simp
            with_reducible rfl
           rotate_left
           ·
            simp only [Act.put, List.setIfInBounds_toArray, List.set_cons_zero, List.set_cons_succ, i64_w, i32_w]
            rfl
           refine one_ (i := 9) (N := some 31) #[true,true,true,true,true,true,true,true,true,true,false,false,false] rfl rfl (one_of HT_.out (by kernel_rfl)) (by decide) (fun K hK => ?_)
           refine goes_ Try.func39 (by kernel_rfl) rfl #[.agg #[.int .i64 ((rd_T48 l0 x10_1).f0), .int .i64 ((rd_T48 l0 x10_1).f1), .int .i64 ((rd_T48 l0 x10_1).f2)], .agg #[.int .i64 ((rd_T48 l0 (ji13)).f0), .int .i64 ((rd_T48 l0 (ji13)).f1), .int .i64 ((rd_T48 l0 (ji13)).f2)]] (by rfl) rfl rfl (by (try simp only [List.map_toArray, List.map_cons, List.map_nil]); first | done | (simp only [hji13]; rfl) | rfl | (simp only [List.length_drop, List.length_take]; rfl)) ?_
           with_reducible refine (group_behind.calls ((rd_T48 l0 x10_1).f0) ((rd_T48 l0 x10_1).f1) ((rd_T48 l0 x10_1).f2) ((rd_T48 l0 (ji13)).f0) ((rd_T48 l0 (ji13)).f1) ((rd_T48 l0 (ji13)).f2) t142 _ A16.out).mono ?_
           rintro e w18 ⟨rfl, hb⟩
           refine ⟨_, rfl, ?_⟩
           have n0_ := Aside0.mk (blk_below BK139.out hb)
           have n1_ := Aside0.mk (below_step (HB.out) hb)
           clear BK139
           clear HB
           have BK139 := n0_
           have HB := n1_
           clear n0_ n1_
           (try clear hb)
           (try clear hb2)
           (try clear hk)
           (try clear hi)
           refine hK.out _ _ ⟨(blk_cell BK139.out 0).trans rfl, (blk_cell BK139.out 1).trans rfl, (blk_cell BK139.out 2).trans rfl, ((HB.out.cell (World.block_lt_of_cell? w _ hw141_0)).trans hw141_0), ((HB.out.cell (World.block_lt_of_cell? w _ hw141_1)).trans hw141_1), ((HB.out.cell (World.block_lt_of_cell? w _ hw141_2)).trans hw141_2)⟩ (fun hHeld => ?_)
           clear hK K
           refine norm_ (a' := ?_) ?_ ?_
           rotate_left
           ·
            show Act.put _ (some 31) _ = _
            simp only [Act.put, List.setIfInBounds_toArray, List.set_cons_zero, List.set_cons_succ, i64_w, i32_w]
            rfl
           refine pure_ (i := 10) (N := some 32) (v := ?_) (a' := ?_) #[true,true,true,true,true,true,true,true,true,true,true,false,false] rfl rfl (any_of HT_.out (by kernel_rfl)) (fun _ _ _ h => h) (Or.inl ⟨by rfl, ?_⟩) ?_ ?_
           rotate_left
           ·
            intro w'
            go_simp
            with_reducible rfl
           rotate_left
           ·
            simp only [Act.put, List.setIfInBounds_toArray, List.set_cons_zero, List.set_cons_succ, i64_w, i32_w]
            rfl
           refine pure_ (i := 11) (N := some 33) (v := ?_) (a' := ?_) #[true,true,true,true,true,true,true,true,true,true,true,true,false] rfl rfl (any_of HT_.out (by kernel_rfl)) (fun _ _ _ h => h) (Or.inl ⟨by rfl, ?_⟩) ?_ ?_
           rotate_left
           ·
            intro w'
            go_simp
            with_reducible rfl
           rotate_left
           ·
            simp only [Act.put, List.setIfInBounds_toArray, List.set_cons_zero, List.set_cons_succ, i64_w, i32_w]
            rfl
           refine pure_ (i := 12) (N := some 21) (v := ?_) (a' := ?_) #[true,true,true,true,true,true,true,true,true,true,true,true,true] rfl rfl (any_of HT_.out (by kernel_rfl)) (fun _ _ _ h => h) (Or.inl ⟨by rfl, ?_⟩) ?_ ?_
           rotate_left
           ·
            intro w'
            go_simp
            with_reducible rfl
           rotate_left
           ·
            simp only [Act.put, List.setIfInBounds_toArray, List.set_cons_zero, List.set_cons_succ, i64_w, i32_w]
            rfl
           refine done_ (done_of HT_.out (by kernel_rfl)) ?_
           try go_wp2
           go_meet
           case rel => exact ⟨_, (!t142), (by first | rfl | (simp; done) | (simp [*]; done)), H', ⟨by have := HK1.out; first | omega | exact Nat.le_refl _⟩, ⟨BK139.out⟩, ⟨HB.out⟩⟩
          ·
           rw [if_neg c15] at H
           exact absurd H (by simp)
         ·
          rw [if_neg c14] at H
          exact absurd H (by simp)
        ·
         rw [if_neg c12] at H
         have c12b0 : decide (0 < x10_1) = false := decide_eq_false c12
         clear c12
         (first | rw [c12b0] | (simp only [i64_w, i32_w]; rw [c12b0]) | skip)
         have H' := Aside0.mk H
         clear H
         try go_wp2
         have n0_ := Aside0.mk (blk_drew BK139.out)
         have n1_ := Aside0.mk (below_drew1 HB.out)
         clear BK139
         clear HB
         have BK139 := n0_
         have HB := n1_
         clear n0_ n1_
         refine start_ (n := 13) (S := fun w' => True) (ds := []) #[false,false,false,false,false,false,false,false,false,false,false,false,false] (by kernel_rfl) rfl rfl trivial (fun hHeld => ?_); refine with_tabW group_Check.tab7 group_Check.bits7 (fun HT_ HW_ => ?_)
         generalize w11.drew = w19 at BK139 HB hHeld ⊢
         refine pure_ (i := 0) (N := some 22) (v := ?_) (a' := ?_) #[true,false,false,false,false,false,false,false,false,false,false,false,false] rfl rfl (any_of HT_.out (by kernel_rfl)) (fun _ _ _ h => h) (Or.inl ⟨by rfl, ?_⟩) ?_ ?_
         rotate_left
         ·
          intro w'
          go_simp
          with_reducible rfl
         rotate_left
         ·
          simp only [Act.put, List.setIfInBounds_toArray, List.set_cons_zero, List.set_cons_succ, i64_w, i32_w]
          rfl
         refine pure_ (i := 1) (N := some 23) (v := ?_) (a' := ?_) #[true,true,false,false,false,false,false,false,false,false,false,false,false] rfl rfl (any_of HT_.out (by kernel_rfl)) (fun _ _ _ h => h) (Or.inl ⟨by rfl, ?_⟩) ?_ ?_
         rotate_left
         ·
          intro w'
          go_simp
          with_reducible rfl
         rotate_left
         ·
          simp only [Act.put, List.setIfInBounds_toArray, List.set_cons_zero, List.set_cons_succ, i64_w, i32_w]
          rfl
         refine pure_ (i := 2) (N := some 24) (v := ?_) (a' := ?_) #[true,true,true,false,false,false,false,false,false,false,false,false,false] rfl rfl (any_of HT_.out (by kernel_rfl)) (fun _ _ _ h => h) (Or.inl ⟨by rfl, ?_⟩) ?_ ?_
         rotate_left
         ·
          intro w'
          go_simp
          with_reducible rfl
         rotate_left
         ·
          simp only [Act.put, List.setIfInBounds_toArray, List.set_cons_zero, List.set_cons_succ, i64_w, i32_w]
          rfl
         refine pure_ (i := 3) (N := some 25) (v := undef) (a' := ?_) #[true,true,true,true,false,false,false,false,false,false,false,false,false] rfl rfl (any_of HT_.out (by kernel_rfl)) (fun _ _ _ h => h) (Or.inr ⟨by rfl, rfl⟩) ?_ ?_
         rotate_left
         ·
          simp only [Act.put, List.setIfInBounds_toArray, List.set_cons_zero, List.set_cons_succ, i64_w, i32_w]
          rfl
         refine pure_ (i := 4) (N := some 26) (v := undef) (a' := ?_) #[true,true,true,true,true,false,false,false,false,false,false,false,false] rfl rfl (any_of HT_.out (by kernel_rfl)) (fun _ _ _ h => h) (Or.inr ⟨by rfl, rfl⟩) ?_ ?_
         rotate_left
         ·
          simp only [Act.put, List.setIfInBounds_toArray, List.set_cons_zero, List.set_cons_succ, i64_w, i32_w]
          rfl
         refine pure_ (i := 5) (N := some 27) (v := undef) (a' := ?_) #[true,true,true,true,true,true,false,false,false,false,false,false,false] rfl rfl (any_of HT_.out (by kernel_rfl)) (fun _ _ _ h => h) (Or.inr ⟨by rfl, rfl⟩) ?_ ?_
         rotate_left
         ·
          simp only [Act.put, List.setIfInBounds_toArray, List.set_cons_zero, List.set_cons_succ, i64_w, i32_w]
          rfl
         refine pure_ (i := 6) (N := some 28) (v := undef) (a' := ?_) #[true,true,true,true,true,true,true,false,false,false,false,false,false] rfl rfl (any_of HT_.out (by kernel_rfl)) (fun _ _ _ h => h) (Or.inr ⟨by rfl, rfl⟩) ?_ ?_
         rotate_left
         ·
          simp only [Act.put, List.setIfInBounds_toArray, List.set_cons_zero, List.set_cons_succ, i64_w, i32_w]
          rfl
         refine pure_ (i := 7) (N := some 29) (v := undef) (a' := ?_) #[true,true,true,true,true,true,true,true,false,false,false,false,false] rfl rfl (any_of HT_.out (by kernel_rfl)) (fun _ _ _ h => h) (Or.inr ⟨by rfl, rfl⟩) ?_ ?_
         rotate_left
         ·
          simp only [Act.put, List.setIfInBounds_toArray, List.set_cons_zero, List.set_cons_succ, i64_w, i32_w]
          rfl
         refine pure_ (i := 8) (N := some 30) (v := undef) (a' := ?_) #[true,true,true,true,true,true,true,true,true,false,false,false,false] rfl rfl (any_of HT_.out (by kernel_rfl)) (fun _ _ _ h => h) (Or.inr ⟨by rfl, rfl⟩) ?_ ?_
         rotate_left
         ·
          simp only [Act.put, List.setIfInBounds_toArray, List.set_cons_zero, List.set_cons_succ, i64_w, i32_w]
          rfl
         refine pure_ (i := 9) (N := some 31) (v := undef) (a' := ?_) #[true,true,true,true,true,true,true,true,true,true,false,false,false] rfl rfl (any_of HT_.out (by kernel_rfl)) (fun _ _ _ h => h) (Or.inr ⟨by rfl, rfl⟩) ?_ ?_
         rotate_left
         ·
          simp only [Act.put, List.setIfInBounds_toArray, List.set_cons_zero, List.set_cons_succ, i64_w, i32_w]
          rfl
         refine pure_ (i := 10) (N := some 32) (v := undef) (a' := ?_) #[true,true,true,true,true,true,true,true,true,true,true,false,false] rfl rfl (any_of HT_.out (by kernel_rfl)) (fun _ _ _ h => h) (Or.inr ⟨by rfl, rfl⟩) ?_ ?_
         rotate_left
         ·
          simp only [Act.put, List.setIfInBounds_toArray, List.set_cons_zero, List.set_cons_succ, i64_w, i32_w]
          rfl
         refine pure_ (i := 11) (N := some 33) (v := ?_) (a' := ?_) #[true,true,true,true,true,true,true,true,true,true,true,true,false] rfl rfl (any_of HT_.out (by kernel_rfl)) (fun _ _ _ h => h) (Or.inl ⟨by rfl, ?_⟩) ?_ ?_
         rotate_left
         ·
          intro w'
          go_simp
          with_reducible rfl
         rotate_left
         ·
          simp only [Act.put, List.setIfInBounds_toArray, List.set_cons_zero, List.set_cons_succ, i64_w, i32_w]
          rfl
         refine pure_ (i := 12) (N := some 21) (v := ?_) (a' := ?_) #[true,true,true,true,true,true,true,true,true,true,true,true,true] rfl rfl (any_of HT_.out (by kernel_rfl)) (fun _ _ _ h => h) (Or.inl ⟨by rfl, ?_⟩) ?_ ?_
         rotate_left
         ·
          intro w'
          go_simp
          with_reducible rfl
         rotate_left
         ·
          simp only [Act.put, List.setIfInBounds_toArray, List.set_cons_zero, List.set_cons_succ, i64_w, i32_w]
          rfl
         refine done_ (done_of HT_.out (by kernel_rfl)) ?_
         try go_wp2
         go_meet
         case rel => exact ⟨_, (false), (by first | rfl | (simp; done) | (simp [*]; done)), H', ⟨by have := HK1.out; first | omega | exact Nat.le_refl _⟩, ⟨BK139.out⟩, ⟨HB.out⟩⟩
       case rest =>
        clear HC8
        (try clear c3b0); (try clear c4b0); (try clear c5b0); (try clear c7b0); (try clear c7b1); (try clear hcz10_0); (try clear hcz10_1); (try clear hcz10_2); (try clear hfz10_0); (try clear hfz10_1); (try clear hfz10_2); (try clear hx138_0); (try clear hx138_1); (try clear hx138_2); (try clear p138); (try clear q138)
        obtain ⟨kq, x21_7, rfl, HA, HJ7, BK139, HB⟩ := hcut
        cases kq with
        | zero => exact absurd HA.out (by simp [group_Check.j1])
        | succ kj7 =>
         have H := HA.out
         clear HA
         simp only [group_Check.j1] at H
         by_cases c20 : x21_7 = true
         ·
          subst c20
          have H1 : (some 2) = some r := by rw [if_pos rfl] at H; exact H
          clear H
          have H := H1
          clear H1
          obtain rfl := Option.some.inj H
          go_wp2
          go_ret
          exact ⟨by first | rfl | (simp [errW_none, errW_some] <;> rfl) | (simp [*, errW_none, errW_some] <;> rfl), HB.out⟩
         ·
          replace c20 := Bool.eq_false_iff.mpr c20
          subst c20
          have H1 : ((group_row.f ((rd_T48 l0 x10_1).f0) ((rd_T48 l0 x10_1).f1) ((rd_T48 l0 x10_1).f2)).bind fun bt143 => ((span_Covers.f kj7 l1 bt143.1 bt143.2.1 bt143.2.2).bind fun t146 => (if t146 = true then (group_Check.l0 kj7 l0 l1 l0 (l0.length : Int) (wrap64 (x10_1 + 1))) else (some 5)))) = some r := by rw [if_neg (show ¬ (false = true) by decide)] at H; exact H
          clear H
          have H := H1
          clear H1
          replace H := Option.bind_eq_some_iff.mp H
          obtain ⟨⟨t143, t144, t145⟩, A210, H⟩ := H
          replace H : ((span_Covers.f kj7 l1 t143 t144 t145).bind fun t146 => (if t146 = true then (group_Check.l0 kj7 l0 l1 l0 (l0.length : Int) (wrap64 (x10_1 + 1))) else (some 5))) = some r := H
          have A21 := Aside0.mk A210
          clear A210
          replace H := Option.bind_eq_some_iff.mp H
          obtain ⟨t146, A220, H⟩ := H
          have A22 := Aside0.mk A220
          clear A220
          by_cases c23 : t146 = true
          ·
           subst c23
           have H1 : (group_Check.l0 kj7 l0 l1 l0 (l0.length : Int) (wrap64 (x10_1 + 1))) = some r := by rw [if_pos rfl] at H; exact H
           clear H
           have H := H1
           clear H1
           have H' := Aside0.mk H
           clear H
           obtain ⟨hcz24_0, hcz24_1, hcz24_2⟩ := blkc3 BK139.out
           obtain ⟨hfz24_0, hfz24_1, hfz24_2⟩ := blkf3 BK139.out
           go_wp2_with (first | ((with_reducible refine gate_callee (f := 41) rfl ?_); refine goesL_ (some 37) rfl rfl Try.func41 (by kernel_rfl) rfl #[.agg #[.int .i64 ((rd_T48 l0 x10_1).f0), .int .i64 ((rd_T48 l0 x10_1).f1), .int .i64 ((rd_T48 l0 x10_1).f2)]] rfl (by (try simp only [List.map_toArray, List.map_cons, List.map_nil]); first | done | rfl | (simp only [List.length_drop, List.length_take]; rfl)) ?_; (with_reducible refine (group_row.calls ((rd_T48 l0 x10_1).f0) ((rd_T48 l0 x10_1).f1) ((rd_T48 l0 x10_1).f2) t143 t144 t145 _ A21.out).mono ?_); rintro e w25 ⟨rfl, hb⟩; refine ⟨_, rfl, ?_⟩; replace BK139 := Aside0.mk (blk_below BK139.out hb); replace HB := Aside0.mk (below_step (HB.out) hb); (try clear hb); (try clear hi)) | ((with_reducible refine gate_callee (f := 40) rfl ?_); refine goesL_ (some 38) rfl rfl Try.func40 (by kernel_rfl) rfl #[.slice A1 l1.length c1, .agg #[.int .i64 t143, .int .i64 t144, .int .i64 t145]] rfl (by (try simp only [List.map_toArray, List.map_cons, List.map_nil]); first | done | rfl | (simp only [List.length_drop, List.length_take]; rfl)) ?_; (with_reducible refine (span_Covers.calls kj7 _ _ l1 t143 t144 t145 true _ ?side1 ?side2 A22.out).mono ?_); (case side1 => repeat (first | exact (Kd.C_below HR1.out HB.out) | (with_reducible refine Kd.C_alloc ?_ _) | (with_reducible refine Kd.C_drewN ?_ _) | (with_reducible refine Kd.C_drew ?_))); (case side2 => exact HC1.out); rintro e w26 ⟨rfl, hb⟩; refine ⟨_, rfl, ?_⟩; replace BK139 := Aside0.mk (blk_below BK139.out hb); replace HB := Aside0.mk (below_step (HB.out) hb); (try clear hb); (try clear hi)))
           go_roundg kj7
           case measure => have := HK1.out; have := HJ7.out; omega
           case rel => exact ⟨(wrap64 (x10_1 + 1)), (by first | rfl | (simp; done) | (simp [*]; done)), H', ⟨by have := HK1.out; have := HJ7.out; omega⟩, ⟨HB.out⟩⟩
          ·
           replace c23 := Bool.eq_false_iff.mpr c23
           subst c23
           have H1 : (some 5) = some r := by rw [if_neg (show ¬ (false = true) by decide)] at H; exact H
           clear H
           have H := H1
           clear H1
           obtain rfl := Option.some.inj H
           obtain ⟨hcz27_0, hcz27_1, hcz27_2⟩ := blkc3 BK139.out
           obtain ⟨hfz27_0, hfz27_1, hfz27_2⟩ := blkf3 BK139.out
           go_wp2_with (first | ((with_reducible refine gate_callee (f := 41) rfl ?_); refine goesL_ (some 37) rfl rfl Try.func41 (by kernel_rfl) rfl #[.agg #[.int .i64 ((rd_T48 l0 x10_1).f0), .int .i64 ((rd_T48 l0 x10_1).f1), .int .i64 ((rd_T48 l0 x10_1).f2)]] rfl (by (try simp only [List.map_toArray, List.map_cons, List.map_nil]); first | done | rfl | (simp only [List.length_drop, List.length_take]; rfl)) ?_; (with_reducible refine (group_row.calls ((rd_T48 l0 x10_1).f0) ((rd_T48 l0 x10_1).f1) ((rd_T48 l0 x10_1).f2) t143 t144 t145 _ A21.out).mono ?_); rintro e w28 ⟨rfl, hb⟩; refine ⟨_, rfl, ?_⟩; replace BK139 := Aside0.mk (blk_below BK139.out hb); replace HB := Aside0.mk (below_step (HB.out) hb); (try clear hb); (try clear hi)) | ((with_reducible refine gate_callee (f := 40) rfl ?_); refine goesL_ (some 38) rfl rfl Try.func40 (by kernel_rfl) rfl #[.slice A1 l1.length c1, .agg #[.int .i64 t143, .int .i64 t144, .int .i64 t145]] rfl (by (try simp only [List.map_toArray, List.map_cons, List.map_nil]); first | done | rfl | (simp only [List.length_drop, List.length_take]; rfl)) ?_; (with_reducible refine (span_Covers.calls kj7 _ _ l1 t143 t144 t145 false _ ?side1 ?side2 A22.out).mono ?_); (case side1 => repeat (first | exact (Kd.C_below HR1.out HB.out) | (with_reducible refine Kd.C_alloc ?_ _) | (with_reducible refine Kd.C_drewN ?_ _) | (with_reducible refine Kd.C_drew ?_))); (case side2 => exact HC1.out); rintro e w29 ⟨rfl, hb⟩; refine ⟨_, rfl, ?_⟩; replace BK139 := Aside0.mk (blk_below BK139.out hb); replace HB := Aside0.mk (below_step (HB.out) hb); (try clear hb); (try clear hi)))
           go_ret
           exact ⟨by first | rfl | (simp [errW_none, errW_some] <;> rfl) | (simp [*, errW_none, errW_some] <;> rfl), HB.out⟩
      ·
       rw [if_neg c7] at H
       have c7b0 : (t140 == 0) = false := beq_eq_false_iff_ne.mpr c7
       have c7b1 : (t140 != 0) = true := bne_iff_ne.mpr c7
       obtain rfl := Option.some.inj H
       have p138 : 0 ≤ (x10_1 : Int) := of_decide_eq_true (by first | (with_reducible assumption) | assumption)
       have q138 : x10_1 < (l0.length : Int) := of_decide_eq_true (by first | (with_reducible assumption) | assumption)
       obtain ⟨ad138, e138, hx138_0, hx138_1, hx138_2⟩ := at_T48 HR0.out x10_1 p138 q138
       cases e138
       replace hx138_0 := (HB.out.cell (World.block_lt_of_cell? w _ hx138_0)).trans hx138_0
       replace hx138_1 := (HB.out.cell (World.block_lt_of_cell? w _ hx138_1)).trans hx138_1
       replace hx138_2 := (HB.out.cell (World.block_lt_of_cell? w _ hx138_2)).trans hx138_2
       replace p138 := eq_true p138
       replace q138 := eq_true q138
       go_wp2_with (first | ((with_reducible refine gate_dst (N := 6) rfl ?_); refine box_event ?hg (N := 6) ?hd (cs := #[.int .i64 0, .int .i64 0, .int .i64 0]) (t := 48) ?hr ?_; (case hd => rfl); (case hg => rfl); (case hr => first | (go_simp; done) | (go_simp; rfl)); intro gb139 hg w30 hbox hb; have BK139 := Aside0.mk (hbox); have GW139 := Aside0.mk ((by rw [hg]; exact (below_size (HB.out)) : w.heap.size ≤ gb139)); have GE139 := Aside0.mk ((by rw [hg]; exact (below_size (HB.out)) : w.heap.size ≤ gb139)); replace HB := Aside0.mk (below_step (HB.out) hb); clear hb hbox hg; obtain ⟨hcz31_0, hcz31_1, hcz31_2⟩ := blkc3 BK139.out; obtain ⟨hfz31_0, hfz31_1, hfz31_2⟩ := blkf3 BK139.out) | ((with_reducible refine gate_callee (f := 38) rfl ?_); refine goesL_ (some 16) rfl rfl Try.func38 (by kernel_rfl) rfl #[.agg #[.int .i64 ((rd_T48 l0 x10_1).f0), .int .i64 ((rd_T48 l0 x10_1).f1), .int .i64 ((rd_T48 l0 x10_1).f2)]] rfl (by (try simp only [List.map_toArray, List.map_cons, List.map_nil]); first | done | rfl | (simp only [List.length_drop, List.length_take]; rfl)) ?_; (with_reducible refine (group_amiss.calls k1 ((rd_T48 l0 x10_1).f0) ((rd_T48 l0 x10_1).f1) ((rd_T48 l0 x10_1).f2) t140 _ A6.out).mono ?_); rintro e w32 ⟨rfl, hb⟩; refine ⟨_, rfl, ?_⟩; replace BK139 := Aside0.mk (blk_below (g := gb139) (o := .cells #[.int .i64 ((rd_T48 l0 x10_1).f0), .int .i64 ((rd_T48 l0 x10_1).f1), .int .i64 ((rd_T48 l0 x10_1).f2)] 48 (0, 0)) (by (with_reducible repeat (first | refine blk_drewN ?_ _ | refine blk_drew ?_ | refine blk_alloc ?_ _)); refine blk_put (cs := #[.int .i64 ((rd_T48 l0 x10_1).f0), .int .i64 ((rd_T48 l0 x10_1).f1), .int .i64 0]) ?_ 2 _ rfl; (with_reducible repeat (first | refine blk_drewN ?_ _ | refine blk_drew ?_ | refine blk_alloc ?_ _)); refine blk_put (cs := #[.int .i64 ((rd_T48 l0 x10_1).f0), .int .i64 0, .int .i64 0]) ?_ 1 _ rfl; (with_reducible repeat (first | refine blk_drewN ?_ _ | refine blk_drew ?_ | refine blk_alloc ?_ _)); refine blk_put (cs := #[.int .i64 0, .int .i64 0, .int .i64 0]) ?_ 0 _ rfl; (with_reducible repeat (first | refine blk_drewN ?_ _ | refine blk_drew ?_ | refine blk_alloc ?_ _)); exact BK139.out) hb); replace HB := Aside0.mk (below_step (by repeat (first | (with_reducible first | exact HB.out | apply below_alloc | apply pw_below_drewN | apply below_drew1 | refine below_set ?_ GE139.out) | exact HB.out)) hb); (try clear hb); (try clear hi)))
       go_ret
       exact ⟨by first | rfl | (simp [errW_none, errW_some] <;> rfl) | (simp [*, errW_none, errW_some] <;> rfl), HB.out⟩
     ·
      rw [if_neg c5] at H
      exact absurd H (by simp)
    ·
     rw [if_neg c4] at H
     exact absurd H (by simp)
   ·
    rw [if_neg c3] at H
    have c3b0 : decide (x10_1 < (l0.length : Int)) = false := decide_eq_false c3
    clear c3
    obtain rfl := Option.some.inj H
    go_wp2
    go_ret
    exact ⟨by first | rfl | (simp [errW_none, errW_some] <;> rfl) | (simp [*, errW_none, errW_some] <;> rfl), HB.out⟩
end Go.Proofs.Ytjlbgopgeepiaaa.PConf
