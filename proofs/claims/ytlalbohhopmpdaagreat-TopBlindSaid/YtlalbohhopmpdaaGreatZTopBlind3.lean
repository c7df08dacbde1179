/- Words and walks for TopBlind (made of the session's own texts; each part by itself). -/
import Derived.Test.YtlalbohhopmpdaaGreatProg
import Derived.Below
import Derived.Deep.Draws
import Derived.Deep.AppendLies
import Derived.Maps.AppendAt
import Derived.OwnWalk
import Derived.Laws.BytesArg
import Derived.Laws.MakeOwn
import Derived.Laws.OwnMore
import Derived.Deep.OwnRows
import Derived.Tactics
import Derived.Lib.ConvBytes
import Derived.Laws.Slices
import Derived.WalkKit
import Derived.KernelRfl
import Derived.RowKit3
import Derived.Deep.LoopGhost
import Derived.Deep.QuietTactic
import Derived.BigQuiet
import Derived.WideLaws
import Derived.Deep.DeepCutAuto
import Derived.Deep.CutBlock
import Derived.Deep.RegionHeld3
import Derived.Laws.Rows
import Derived.Lib.AppendStr
import Derived.ArgAppend
import Derived.Laws.IdiomCopy
import Derived.OrdersHeld
import Derived.Laws.BitsLemmas
import Derived.RowKit
import Derived.Test.YtlalbohhopmpdaaGreatZTopBlind2
set_option maxRecDepth 100000
set_option maxHeartbeats 8000000
set_option linter.unusedVariables false
set_option linter.unusedSimpArgs false
namespace Go.Proofs.YtlalbohhopmpdaaGreat.PTop
open Go.RowKit Go.YW.PrintWords Go.YW.PrintLast Go.YW.PrintMore
attribute [local go_sem] yN yO xu xw yP yR xm xq zk zo   -- for this text's walks alone
def zdX : Option Int → Value
 | none => .nilIface
 | some c => .iface 0 (.int .i64 c)
theorem zC : zdX none = .nilIface := rfl
theorem zD (c : Int) : zdX (some c) = .iface 0 (.int .i64 c) := rfl
theorem info5 : (Tryz.prog.info? 5).map (fun i => (i.zero, i.size, i.bytes)) = some (some (.int .u8 0), 1, 1) := by kernel_rfl
theorem zdk : (Tryz.prog.info? 33).map (fun i => (i.zero, i.size, i.bytes)) = some (some (.int .u16 0), 1, 2) := by kernel_rfl
theorem zbR : (Tryz.prog.info? 208).map (fun i => (i.zero, i.size, i.bytes)) = some (some (.agg #[(.int .i64 0), (.int .i64 0), (.int .u16 0)]), 3, 24) := by kernel_rfl
structure S78 where
 f0 : Int
 f1 : Int
 f2 : Int
def z78 : S78 := ⟨(0 : Int), (0 : Int), (0 : Int)⟩
def k78 : Kd S78 := Kd.iso (Kd.pair (Kd.int .i64) (Kd.pair (Kd.int .i64) (Kd.int .i64))) (fun x : S78 => (x.f0, x.f1, x.f2))
theorem Xg {w : World} {x : S78} {cs : List Value} (h : k78.K w x cs) : cs = [.int .i64 x.f0, .int .i64 x.f1, .int .i64 x.f2] := by
 obtain ⟨_, _, rfl, rfl, ⟨_, _, rfl, rfl, rfl⟩⟩ := h
 exact rfl
theorem zda (w : World) (x : S78)  : k78.K w x [.int .i64 x.f0, .int .i64 x.f1, .int .i64 x.f2] := ⟨[.int .i64 x.f0], [.int .i64 x.f1, .int .i64 x.f2], rfl, rfl, ⟨[.int .i64 x.f1], [.int .i64 x.f2], rfl, rfl, rfl⟩⟩
theorem jm (w : World) (base : Nat) (ok : Nat → Prop) (x : S78)  : k78.M w base ok x [.int .i64 x.f0, .int .i64 x.f1, .int .i64 x.f2] := ⟨[.int .i64 x.f0], [.int .i64 x.f1, .int .i64 x.f2], rfl, rfl, ⟨[.int .i64 x.f1], [.int .i64 x.f2], rfl, rfl, rfl⟩⟩
def zJ (xs : List S78) (i : Int) : S78 := xs.getD i.toNat z78
theorem Yg {w : World} {A : Option Addr} {n : Nat} {xs : List S78} (h : Kd.C k78 w A n xs) (i : Int) (h0 : 0 ≤ i) (h1 : i < n) : ∃ ad , A = some ad ∧ w.cell? (ad.add (i.toNat * 3)) = some (.int .i64 (zJ xs i).f0) ∧ w.cell? ⟨(ad.add (i.toNat * 3)).block, (ad.add (i.toNat * 3)).off + 1, none⟩ = some (.int .i64 (zJ xs i).f1) ∧ w.cell? ⟨(ad.add (i.toNat * 3)).block, (ad.add (i.toNat * 3)).off + 2, none⟩ = some (.int .i64 (zJ xs i).f2) := by
 obtain ⟨ad, c, e, _, hK, hc0⟩ := Kd.JH h z78 i h0 h1
 have hc : ∀ j u, c[j]? = some u → w.cell? (ad.add (i.toNat * 3 + j)) = some u := hc0
 obtain rfl := Xg hK
 exact ⟨ad, e, hc 0 _ rfl, by rw [← qY _ _ 1 (by omega)]; exact hc 1 _ rfl, by rw [← qY _ _ 2 (by omega)]; exact hc 2 _ rfl⟩
structure S81 where
 f0 : Int
 f1 : Int
 f2 : Int
def z81 : S81 := ⟨(0 : Int), (0 : Int), (0 : Int)⟩
def k81 : Kd S81 := Kd.iso (Kd.pair (Kd.int .i64) (Kd.pair (Kd.int .i64) (Kd.int .i64))) (fun x : S81 => (x.f0, x.f1, x.f2))
theorem Jf {w : World} {x : S81} {cs : List Value} (h : k81.K w x cs) : cs = [.int .i64 x.f0, .int .i64 x.f1, .int .i64 x.f2] := by
 obtain ⟨_, _, rfl, rfl, ⟨_, _, rfl, rfl, rfl⟩⟩ := h
 exact rfl
theorem YF (w : World) (base : Nat) (ok : Nat → Prop) (x : S81)  : k81.M w base ok x [.int .i64 x.f0, .int .i64 x.f1, .int .i64 x.f2] := ⟨[.int .i64 x.f0], [.int .i64 x.f1, .int .i64 x.f2], rfl, rfl, ⟨[.int .i64 x.f1], [.int .i64 x.f2], rfl, rfl, rfl⟩⟩
def zH (xs : List S81) (i : Int) : S81 := xs.getD i.toNat z81
theorem Vd {w : World} {A : Option Addr} {n : Nat} {xs : List S81} (h : Kd.C k81 w A n xs) (i : Int) (h0 : 0 ≤ i) (h1 : i < n) : ∃ ad , A = some ad ∧ w.cell? (ad.add (i.toNat * 3)) = some (.int .i64 (zH xs i).f0) ∧ w.cell? ⟨(ad.add (i.toNat * 3)).block, (ad.add (i.toNat * 3)).off + 1, none⟩ = some (.int .i64 (zH xs i).f1) ∧ w.cell? ⟨(ad.add (i.toNat * 3)).block, (ad.add (i.toNat * 3)).off + 2, none⟩ = some (.int .i64 (zH xs i).f2) := by
 obtain ⟨ad, c, e, _, hK, hc0⟩ := Kd.JH h z81 i h0 h1
 have hc : ∀ j u, c[j]? = some u → w.cell? (ad.add (i.toNat * 3 + j)) = some u := hc0
 obtain rfl := Jf hK
 exact ⟨ad, e, hc 0 _ rfl, by rw [← qY _ _ 1 (by omega)]; exact hc 1 _ rfl, by rw [← qY _ _ 2 (by omega)]; exact hc 2 _ rfl⟩
structure S84 where
 f0 : Int
 f1 : ByteArray
def z84 : S84 := ⟨(0 : Int), (⟨#[]⟩ : ByteArray)⟩
def k84 : Kd S84 := Kd.iso (Kd.pair (Kd.int .i64) Kd.string) (fun x : S84 => (x.f0, x.f1))
theorem Jv {w : World} {x : S84} {cs : List Value} (h : k84.K w x cs) : cs = [.int .i64 x.f0, .string x.f1] := by
 obtain ⟨_, _, rfl, rfl, rfl⟩ := h
 exact rfl
theorem YG (w : World) (base : Nat) (ok : Nat → Prop) (x : S84)  : k84.M w base ok x [.int .i64 x.f0, .string x.f1] := ⟨[.int .i64 x.f0], [.string x.f1], rfl, rfl, rfl⟩
def xW (xs : List S84) (i : Int) : S84 := xs.getD i.toNat z84
theorem Qc {w : World} {A : Option Addr} {n : Nat} {xs : List S84} (h : Kd.C k84 w A n xs) (i : Int) (h0 : 0 ≤ i) (h1 : i < n) : ∃ ad , A = some ad ∧ w.cell? (ad.add (i.toNat * 2)) = some (.int .i64 (xW xs i).f0) ∧ w.cell? ⟨(ad.add (i.toNat * 2)).block, (ad.add (i.toNat * 2)).off + 1, none⟩ = some (.string (xW xs i).f1) := by
 obtain ⟨ad, c, e, _, hK, hc0⟩ := Kd.JH h z84 i h0 h1
 have hc : ∀ j u, c[j]? = some u → w.cell? (ad.add (i.toNat * 2 + j)) = some u := hc0
 obtain rfl := Jv hK
 exact ⟨ad, e, hc 0 _ rfl, by rw [← qY _ _ 1 (by omega)]; exact hc 1 _ rfl⟩
structure xU where
 f0 : Int
 f1 : Int
def z210 : xU := ⟨(0 : Int), (0 : Int)⟩
def vo : Kd xU := Kd.iso (Kd.pair (Kd.int .u64) (Kd.int .u16)) (fun x : xU => (x.f0, x.f1))
theorem XI {w : World} {x : xU} {cs : List Value} (h : vo.K w x cs) : cs = [.int .u64 x.f0, .int .u16 x.f1] := by
 obtain ⟨_, _, rfl, rfl, rfl⟩ := h
 exact rfl
theorem Kl {w : World} {base : Nat} {ok : Nat → Prop} {x : xU} {cs : List Value} (h : vo.M w base ok x cs) : cs = [.int .u64 x.f0, .int .u16 x.f1] := by
 obtain ⟨_, _, rfl, rfl, rfl⟩ := h
 exact rfl
theorem zcq (w : World) (x : xU)  : vo.K w x [.int .u64 x.f0, .int .u16 x.f1] := ⟨[.int .u64 x.f0], [.int .u16 x.f1], rfl, rfl, rfl⟩
theorem Jh (w : World) (base : Nat) (ok : Nat → Prop) (x : xU)  : vo.M w base ok x [.int .u64 x.f0, .int .u16 x.f1] := ⟨[.int .u64 x.f0], [.int .u16 x.f1], rfl, rfl, rfl⟩
def qI (xs : List xU) (i : Int) : xU := xs.getD i.toNat z210
theorem YC {w : World} {A : Option Addr} {n : Nat} {xs : List xU} (h : Kd.C vo w A n xs) (i : Int) (h0 : 0 ≤ i) (h1 : i < n) : ∃ ad , A = some ad ∧ w.cell? (ad.add (i.toNat * 2)) = some (.int .u64 (qI xs i).f0) ∧ w.cell? ⟨(ad.add (i.toNat * 2)).block, (ad.add (i.toNat * 2)).off + 1, none⟩ = some (.int .u16 (qI xs i).f1) := by
 obtain ⟨ad, c, e, _, hK, hc0⟩ := Kd.JH h z210 i h0 h1
 have hc : ∀ j u, c[j]? = some u → w.cell? (ad.add (i.toNat * 2 + j)) = some u := hc0
 obtain rfl := XI hK
 exact ⟨ad, e, hc 0 _ rfl, by rw [← qY _ _ 1 (by omega)]; exact hc 1 _ rfl⟩
structure YQ where
 f0 : Int
 f1 : Int
def zeb : YQ := ⟨(0 : Int), (0 : Int)⟩
def zbQ : Kd YQ := Kd.iso (Kd.pair (Kd.int .i64) (Kd.int .i64)) (fun x : YQ => (x.f0, x.f1))
theorem Wd {w : World} {x : YQ} {cs : List Value} (h : zbQ.K w x cs) : cs = [.int .i64 x.f0, .int .i64 x.f1] := by
 obtain ⟨_, _, rfl, rfl, rfl⟩ := h
 exact rfl
theorem KS {w : World} {base : Nat} {ok : Nat → Prop} {x : YQ} {cs : List Value} (h : zbQ.M w base ok x cs) : cs = [.int .i64 x.f0, .int .i64 x.f1] := by
 obtain ⟨_, _, rfl, rfl, rfl⟩ := h
 exact rfl
theorem zbe (w : World) (base : Nat) (ok : Nat → Prop) (x : YQ)  : zbQ.M w base ok x [.int .i64 x.f0, .int .i64 x.f1] := ⟨[.int .i64 x.f0], [.int .i64 x.f1], rfl, rfl, rfl⟩
structure yg where
 f0 : YQ
 f1 : Int
def z208 : yg := ⟨zeb, (0 : Int)⟩
def xL : Kd yg := Kd.iso (Kd.pair zbQ (Kd.int .u16)) (fun x : yg => (x.f0, x.f1))
theorem ZR {w : World} {x : yg} {cs : List Value} (h : xL.K w x cs) : cs = [.int .i64 x.f0.f0, .int .i64 x.f0.f1, .int .u16 x.f1] := by
 obtain ⟨_, _, rfl, s0, rfl⟩ := h
 obtain rfl := Wd s0
 exact rfl
theorem Zm {w : World} {base : Nat} {ok : Nat → Prop} {x : yg} {cs : List Value} (h : xL.M w base ok x cs) : cs = [.int .i64 x.f0.f0, .int .i64 x.f0.f1, .int .u16 x.f1] := by
 obtain ⟨_, _, rfl, s0, rfl⟩ := h
 obtain rfl := KS s0
 exact rfl
theorem jW (w : World) (base : Nat) (ok : Nat → Prop) (x : yg)  : xL.M w base ok x [.int .i64 x.f0.f0, .int .i64 x.f0.f1, .int .u16 x.f1] := ⟨[.int .i64 x.f0.f0, .int .i64 x.f0.f1], [.int .u16 x.f1], rfl, (zbe w base ok x.f0 ), rfl⟩
def qy (xs : List yg) (i : Int) : yg := xs.getD i.toNat z208
theorem kz {w : World} {A : Option Addr} {n : Nat} {xs : List yg} (h : Kd.C xL w A n xs) (i : Int) (h0 : 0 ≤ i) (h1 : i < n) : ∃ ad , A = some ad ∧ w.cell? (ad.add (i.toNat * 3)) = some (.int .i64 (qy xs i).f0.f0) ∧ w.cell? ⟨(ad.add (i.toNat * 3)).block, (ad.add (i.toNat * 3)).off + 1, none⟩ = some (.int .i64 (qy xs i).f0.f1) ∧ w.cell? ⟨(ad.add (i.toNat * 3)).block, (ad.add (i.toNat * 3)).off + 2, none⟩ = some (.int .u16 (qy xs i).f1) := by
 obtain ⟨ad, c, e, _, hK, hc0⟩ := Kd.JH h z208 i h0 h1
 have hc : ∀ j u, c[j]? = some u → w.cell? (ad.add (i.toNat * 3 + j)) = some u := hc0
 obtain rfl := ZR hK
 exact ⟨ad, e, hc 0 _ rfl, by rw [← qY _ _ 1 (by omega)]; exact hc 1 _ rfl, by rw [← qY _ _ 2 (by omega)]; exact hc 2 _ rfl⟩
theorem JI : Kd.Flat xL := ⟨by decide, fun _ _ _ _ x cs h => by rw [ZR h]; exact jW _ _ _ x⟩
end Go.Proofs.YtlalbohhopmpdaaGreat.PTop
