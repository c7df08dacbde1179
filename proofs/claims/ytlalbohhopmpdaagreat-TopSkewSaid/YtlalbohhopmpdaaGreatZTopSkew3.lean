/- Words and walks for TopSkew (made of the session's own texts; each part by itself). -/
import Derived.Test.YtlalbohhopmpdaaGreatProg
import Derived.Below
import Derived.Deep.Draws
import Derived.Deep.AppendLies
import Derived.Maps.AppendAt
import Derived.OwnWalk
import Derived.Laws.BytesArg
import Derived.Laws.MakeOwn
import Derived.Laws.OwnMore
import Derived.Deep.OwnRows
import Derived.Tactics
import Derived.Lib.ConvBytes
import Derived.Laws.Slices
import Derived.WalkKit
import Derived.KernelRfl
import Derived.RowKit3
import Derived.Deep.LoopGhost
import Derived.Deep.QuietTactic
import Derived.BigQuiet
import Derived.WideLaws
import Derived.Deep.DeepCutAuto
import Derived.Deep.CutBlock
import Derived.Deep.RegionHeld3
import Derived.Laws.Rows
import Derived.Lib.AppendStr
import Derived.ArgAppend
import Derived.Laws.IdiomCopy
import Derived.OrdersHeld
import Derived.Laws.BitsLemmas
import Derived.RowKit
import Derived.Test.YtlalbohhopmpdaaGreatZTopSkew2
set_option maxRecDepth 100000
set_option maxHeartbeats 8000000
set_option linter.unusedVariables false
set_option linter.unusedSimpArgs false
namespace Go.Proofs.YtlalbohhopmpdaaGreat.PTop
open Go.RowKit Go.YW.PrintWords Go.YW.PrintLast Go.YW.PrintMore
attribute [local go_sem] yU yT xE xC xe yZ xJ xK zm zu   -- for this text's walks alone
def zda : Option Int → Value
 | none => .nilIface
 | some c => .iface 0 (.int .i64 c)
theorem zD : zda none = .nilIface := rfl
theorem zC (c : Int) : zda (some c) = .iface 0 (.int .i64 c) := rfl
theorem info5 : (Tryz.prog.info? 5).map (fun i => (i.zero, i.size, i.bytes)) = some (some (.int .u8 0), 1, 1) := by kernel_rfl
theorem Kg : (Tryz.prog.info? 33).map (fun i => (i.zero, i.size, i.bytes)) = some (some (.int .u16 0), 1, 2) := by kernel_rfl
theorem zb5 : (Tryz.prog.info? 208).map (fun i => (i.zero, i.size, i.bytes)) = some (some (.agg #[(.int .i64 0), (.int .i64 0), (.int .u16 0)]), 3, 24) := by kernel_rfl
structure S78 where
 f0 : Int
 f1 : Int
 f2 : Int
def z78 : S78 := ⟨(0 : Int), (0 : Int), (0 : Int)⟩
def k78 : Kd S78 := Kd.iso (Kd.pair (Kd.int .i64) (Kd.pair (Kd.int .i64) (Kd.int .i64))) (fun x : S78 => (x.f0, x.f1, x.f2))
theorem YJ {w : World} {x : S78} {cs : List Value} (h : k78.K w x cs) : cs = [.int .i64 x.f0, .int .i64 x.f1, .int .i64 x.f2] := by
 obtain ⟨_, _, rfl, rfl, ⟨_, _, rfl, rfl, rfl⟩⟩ := h
 exact rfl
theorem VV {w : World} {base : Nat} {ok : Nat → Prop} {x : S78} {cs : List Value} (h : k78.M w base ok x cs) : cs = [.int .i64 x.f0, .int .i64 x.f1, .int .i64 x.f2] := by
 obtain ⟨_, _, rfl, rfl, ⟨_, _, rfl, rfl, rfl⟩⟩ := h
 exact rfl
theorem zcV (w : World) (x : S78)  : k78.K w x [.int .i64 x.f0, .int .i64 x.f1, .int .i64 x.f2] := ⟨[.int .i64 x.f0], [.int .i64 x.f1, .int .i64 x.f2], rfl, rfl, ⟨[.int .i64 x.f1], [.int .i64 x.f2], rfl, rfl, rfl⟩⟩
theorem qC (w : World) (base : Nat) (ok : Nat → Prop) (x : S78)  : k78.M w base ok x [.int .i64 x.f0, .int .i64 x.f1, .int .i64 x.f2] := ⟨[.int .i64 x.f0], [.int .i64 x.f1, .int .i64 x.f2], rfl, rfl, ⟨[.int .i64 x.f1], [.int .i64 x.f2], rfl, rfl, rfl⟩⟩
def zK (xs : List S78) (i : Int) : S78 := xs.getD i.toNat z78
theorem Zl {w : World} {A : Option Addr} {n : Nat} {xs : List S78} (h : Kd.C k78 w A n xs) (i : Int) (h0 : 0 ≤ i) (h1 : i < n) : ∃ ad , A = some ad ∧ w.cell? (ad.add (i.toNat * 3)) = some (.int .i64 (zK xs i).f0) ∧ w.cell? ⟨(ad.add (i.toNat * 3)).block, (ad.add (i.toNat * 3)).off + 1, none⟩ = some (.int .i64 (zK xs i).f1) ∧ w.cell? ⟨(ad.add (i.toNat * 3)).block, (ad.add (i.toNat * 3)).off + 2, none⟩ = some (.int .i64 (zK xs i).f2) := by
 obtain ⟨ad, c, e, _, hK, hc0⟩ := Kd.JP h z78 i h0 h1
 have hc : ∀ j u, c[j]? = some u → w.cell? (ad.add (i.toNat * 3 + j)) = some u := hc0
 obtain rfl := YJ hK
 exact ⟨ad, e, hc 0 _ rfl, by rw [← qR _ _ 1 (by omega)]; exact hc 1 _ rfl, by rw [← qR _ _ 2 (by omega)]; exact hc 2 _ rfl⟩
structure S81 where
 f0 : Int
 f1 : Int
 f2 : Int
def z81 : S81 := ⟨(0 : Int), (0 : Int), (0 : Int)⟩
def k81 : Kd S81 := Kd.iso (Kd.pair (Kd.int .i64) (Kd.pair (Kd.int .i64) (Kd.int .i64))) (fun x : S81 => (x.f0, x.f1, x.f2))
theorem Jc {w : World} {x : S81} {cs : List Value} (h : k81.K w x cs) : cs = [.int .i64 x.f0, .int .i64 x.f1, .int .i64 x.f2] := by
 obtain ⟨_, _, rfl, rfl, ⟨_, _, rfl, rfl, rfl⟩⟩ := h
 exact rfl
theorem Yy (w : World) (base : Nat) (ok : Nat → Prop) (x : S81)  : k81.M w base ok x [.int .i64 x.f0, .int .i64 x.f1, .int .i64 x.f2] := ⟨[.int .i64 x.f0], [.int .i64 x.f1, .int .i64 x.f2], rfl, rfl, ⟨[.int .i64 x.f1], [.int .i64 x.f2], rfl, rfl, rfl⟩⟩
def zJ (xs : List S81) (i : Int) : S81 := xs.getD i.toNat z81
theorem Kh {w : World} {A : Option Addr} {n : Nat} {xs : List S81} (h : Kd.C k81 w A n xs) (i : Int) (h0 : 0 ≤ i) (h1 : i < n) : ∃ ad , A = some ad ∧ w.cell? (ad.add (i.toNat * 3)) = some (.int .i64 (zJ xs i).f0) ∧ w.cell? ⟨(ad.add (i.toNat * 3)).block, (ad.add (i.toNat * 3)).off + 1, none⟩ = some (.int .i64 (zJ xs i).f1) ∧ w.cell? ⟨(ad.add (i.toNat * 3)).block, (ad.add (i.toNat * 3)).off + 2, none⟩ = some (.int .i64 (zJ xs i).f2) := by
 obtain ⟨ad, c, e, _, hK, hc0⟩ := Kd.JP h z81 i h0 h1
 have hc : ∀ j u, c[j]? = some u → w.cell? (ad.add (i.toNat * 3 + j)) = some u := hc0
 obtain rfl := Jc hK
 exact ⟨ad, e, hc 0 _ rfl, by rw [← qR _ _ 1 (by omega)]; exact hc 1 _ rfl, by rw [← qR _ _ 2 (by omega)]; exact hc 2 _ rfl⟩
structure S84 where
 f0 : Int
 f1 : ByteArray
def z84 : S84 := ⟨(0 : Int), (⟨#[]⟩ : ByteArray)⟩
def k84 : Kd S84 := Kd.iso (Kd.pair (Kd.int .i64) Kd.string) (fun x : S84 => (x.f0, x.f1))
theorem QX {w : World} {x : S84} {cs : List Value} (h : k84.K w x cs) : cs = [.int .i64 x.f0, .string x.f1] := by
 obtain ⟨_, _, rfl, rfl, rfl⟩ := h
 exact rfl
theorem Yu (w : World) (base : Nat) (ok : Nat → Prop) (x : S84)  : k84.M w base ok x [.int .i64 x.f0, .string x.f1] := ⟨[.int .i64 x.f0], [.string x.f1], rfl, rfl, rfl⟩
def xS (xs : List S84) (i : Int) : S84 := xs.getD i.toNat z84
theorem XY {w : World} {A : Option Addr} {n : Nat} {xs : List S84} (h : Kd.C k84 w A n xs) (i : Int) (h0 : 0 ≤ i) (h1 : i < n) : ∃ ad , A = some ad ∧ w.cell? (ad.add (i.toNat * 2)) = some (.int .i64 (xS xs i).f0) ∧ w.cell? ⟨(ad.add (i.toNat * 2)).block, (ad.add (i.toNat * 2)).off + 1, none⟩ = some (.string (xS xs i).f1) := by
 obtain ⟨ad, c, e, _, hK, hc0⟩ := Kd.JP h z84 i h0 h1
 have hc : ∀ j u, c[j]? = some u → w.cell? (ad.add (i.toNat * 2 + j)) = some u := hc0
 obtain rfl := QX hK
 exact ⟨ad, e, hc 0 _ rfl, by rw [← qR _ _ 1 (by omega)]; exact hc 1 _ rfl⟩
structure xY where
 f0 : Int
 f1 : Int
def z210 : xY := ⟨(0 : Int), (0 : Int)⟩
def kV : Kd xY := Kd.iso (Kd.pair (Kd.int .u64) (Kd.int .u16)) (fun x : xY => (x.f0, x.f1))
theorem XL {w : World} {x : xY} {cs : List Value} (h : kV.K w x cs) : cs = [.int .u64 x.f0, .int .u16 x.f1] := by
 obtain ⟨_, _, rfl, rfl, rfl⟩ := h
 exact rfl
theorem KA {w : World} {base : Nat} {ok : Nat → Prop} {x : xY} {cs : List Value} (h : kV.M w base ok x cs) : cs = [.int .u64 x.f0, .int .u16 x.f1] := by
 obtain ⟨_, _, rfl, rfl, rfl⟩ := h
 exact rfl
theorem zbO (w : World) (x : xY)  : kV.K w x [.int .u64 x.f0, .int .u16 x.f1] := ⟨[.int .u64 x.f0], [.int .u16 x.f1], rfl, rfl, rfl⟩
theorem Jo (w : World) (base : Nat) (ok : Nat → Prop) (x : xY)  : kV.M w base ok x [.int .u64 x.f0, .int .u16 x.f1] := ⟨[.int .u64 x.f0], [.int .u16 x.f1], rfl, rfl, rfl⟩
def qA (xs : List xY) (i : Int) : xY := xs.getD i.toNat z210
theorem Yw {w : World} {A : Option Addr} {n : Nat} {xs : List xY} (h : Kd.C kV w A n xs) (i : Int) (h0 : 0 ≤ i) (h1 : i < n) : ∃ ad , A = some ad ∧ w.cell? (ad.add (i.toNat * 2)) = some (.int .u64 (qA xs i).f0) ∧ w.cell? ⟨(ad.add (i.toNat * 2)).block, (ad.add (i.toNat * 2)).off + 1, none⟩ = some (.int .u16 (qA xs i).f1) := by
 obtain ⟨ad, c, e, _, hK, hc0⟩ := Kd.JP h z210 i h0 h1
 have hc : ∀ j u, c[j]? = some u → w.cell? (ad.add (i.toNat * 2 + j)) = some u := hc0
 obtain rfl := XL hK
 exact ⟨ad, e, hc 0 _ rfl, by rw [← qR _ _ 1 (by omega)]; exact hc 1 _ rfl⟩
structure YW where
 f0 : Int
 f1 : Int
def zdE : YW := ⟨(0 : Int), (0 : Int)⟩
def zb3 : Kd YW := Kd.iso (Kd.pair (Kd.int .i64) (Kd.int .i64)) (fun x : YW => (x.f0, x.f1))
theorem Ws {w : World} {x : YW} {cs : List Value} (h : zb3.K w x cs) : cs = [.int .i64 x.f0, .int .i64 x.f1] := by
 obtain ⟨_, _, rfl, rfl, rfl⟩ := h
 exact rfl
theorem JU {w : World} {base : Nat} {ok : Nat → Prop} {x : YW} {cs : List Value} (h : zb3.M w base ok x cs) : cs = [.int .i64 x.f0, .int .i64 x.f1] := by
 obtain ⟨_, _, rfl, rfl, rfl⟩ := h
 exact rfl
theorem zal (w : World) (base : Nat) (ok : Nat → Prop) (x : YW)  : zb3.M w base ok x [.int .i64 x.f0, .int .i64 x.f1] := ⟨[.int .i64 x.f0], [.int .i64 x.f1], rfl, rfl, rfl⟩
structure xz where
 f0 : YW
 f1 : Int
def z208 : xz := ⟨zdE, (0 : Int)⟩
def qp : Kd xz := Kd.iso (Kd.pair zb3 (Kd.int .u16)) (fun x : xz => (x.f0, x.f1))
theorem XT {w : World} {x : xz} {cs : List Value} (h : qp.K w x cs) : cs = [.int .i64 x.f0.f0, .int .i64 x.f0.f1, .int .u16 x.f1] := by
 obtain ⟨_, _, rfl, s0, rfl⟩ := h
 obtain rfl := Ws s0
 exact rfl
theorem Zw {w : World} {base : Nat} {ok : Nat → Prop} {x : xz} {cs : List Value} (h : qp.M w base ok x cs) : cs = [.int .i64 x.f0.f0, .int .i64 x.f0.f1, .int .u16 x.f1] := by
 obtain ⟨_, _, rfl, s0, rfl⟩ := h
 obtain rfl := JU s0
 exact rfl
theorem vg (w : World) (base : Nat) (ok : Nat → Prop) (x : xz)  : qp.M w base ok x [.int .i64 x.f0.f0, .int .i64 x.f0.f1, .int .u16 x.f1] := ⟨[.int .i64 x.f0.f0, .int .i64 x.f0.f1], [.int .u16 x.f1], rfl, (zal w base ok x.f0 ), rfl⟩
def jk (xs : List xz) (i : Int) : xz := xs.getD i.toNat z208
theorem YC {w : World} {A : Option Addr} {n : Nat} {xs : List xz} (h : Kd.C qp w A n xs) (i : Int) (h0 : 0 ≤ i) (h1 : i < n) : ∃ ad , A = some ad ∧ w.cell? (ad.add (i.toNat * 3)) = some (.int .i64 (jk xs i).f0.f0) ∧ w.cell? ⟨(ad.add (i.toNat * 3)).block, (ad.add (i.toNat * 3)).off + 1, none⟩ = some (.int .i64 (jk xs i).f0.f1) ∧ w.cell? ⟨(ad.add (i.toNat * 3)).block, (ad.add (i.toNat * 3)).off + 2, none⟩ = some (.int .u16 (jk xs i).f1) := by
 obtain ⟨ad, c, e, _, hK, hc0⟩ := Kd.JP h z208 i h0 h1
 have hc : ∀ j u, c[j]? = some u → w.cell? (ad.add (i.toNat * 3 + j)) = some u := hc0
 obtain rfl := XT hK
 exact ⟨ad, e, hc 0 _ rfl, by rw [← qR _ _ 1 (by omega)]; exact hc 1 _ rfl, by rw [← qR _ _ 2 (by omega)]; exact hc 2 _ rfl⟩
end Go.Proofs.YtlalbohhopmpdaaGreat.PTop
