/-
  No cell of these rows narrows 'for every input' (looked for: loops, veiled, ifaces, maps, wideKeys, modest, calm, conditions, laid).
  DERIVED. THE GIVEN ROWS OF THIS SEAT. 12 by the template 'for every input the law returns true; each argument reads behind the call as it read before'; 0 by the template 'total and deterministic' (their statements: YtkfdombneaikfaaTotals.lean).
  GIVEN WITH THE SEED: the statements are not yours to turn. If you find one false, say at which input.
  Laid BY PROGRAM, IN A SANDBOX (cutbox-rows.mjs): the forced cells as the released guide's own fill.sh prints them over the translation cf30b5a808f5e14d… (all of the seat's roots in one cut). By AI agents, Wed Nov 11 2026. No macro, syntax, notation, axiom, sorry.
-/
import Derived.Test.YtkfdombneaikfaaChecked
import GoSem.Claim
import GoSem.ClaimJoined
import GoSem.ClaimMapViews
import Derived.JoinedTies
import Derived.KernelRfl
namespace Go.Proofs.Ytkfdombneaikfaa
/- THE CELL 'sum', in the pinned program and in every row, IS THE sha256 OF THE DUMP (.gsa) THAT YtkfdombneaikfaaProg.lean LOADS. Nothing in Lean hashes anything: it is a label: what it is worth is what the hold of that sum in a sandbox is worth. -/
noncomputable def Try.pinned : Pinned := { name := "ytkfdombneaikfaa", sum := "cf30b5a808f5e14db3cfe1f608009b6fa99e847d52b837d1e97ad6275f0ee696", checked := Try.checked }
namespace Rows
def none {H : Type} : Left H := { results := [], args := [] }

/-- 'busbarlaw1.WordTurns': WHATEVER THE INPUT: true; the input reads as it did. -/
def wordTurnsSpec : ChangeSpec := { name := "wordTurns", fn := fun _ => fun
  | [d] => { results := [.lit (.bool true)], args := [d] }
  | _ => none }
def wordTurnsRow : OpenClaim := { program := "ytkfdombneaikfaa", sum := "cf30b5a808f5e14db3cfe1f608009b6fa99e847d52b837d1e97ad6275f0ee696", func := "busbar/busbarlaw1.WordTurns", spec := "wordTurns", apart := false }
def WordTurnsSaid : Prop := wordTurnsRow.holds Try.pinned (OpenSpec.ofChange wordTurnsSpec)

/-- ITS FALSE NEIGHBOUR: 'it returns false'. Refute it at one input. -/
def wordTurnsWrong : ChangeSpec := { name := "wordTurns", fn := fun _ => fun
  | [d] => { results := [.lit (.bool false)], args := [d] }
  | _ => none }
def WordTurnsWrongFalsely : Prop := wordTurnsRow.holds Try.pinned (OpenSpec.ofChange wordTurnsWrong)

/-- 'busbarlaw1.WordPuts': WHATEVER THE INPUT: true; the input reads as it did. -/
def wordPutsSpec : ChangeSpec := { name := "wordPuts", fn := fun _ => fun
  | [d1, d2, d3] => { results := [.lit (.bool true)], args := [d1, d2, d3] }
  | _ => none }
def wordPutsRow : OpenClaim := { program := "ytkfdombneaikfaa", sum := "cf30b5a808f5e14db3cfe1f608009b6fa99e847d52b837d1e97ad6275f0ee696", func := "busbar/busbarlaw1.WordPuts", spec := "wordPuts", apart := false }
def WordPutsSaid : Prop := wordPutsRow.holds Try.pinned (OpenSpec.ofChange wordPutsSpec)

/-- ITS FALSE NEIGHBOUR: 'it returns false'. Refute it at one input. -/
def wordPutsWrong : ChangeSpec := { name := "wordPuts", fn := fun _ => fun
  | [d1, d2, d3] => { results := [.lit (.bool false)], args := [d1, d2, d3] }
  | _ => none }
def WordPutsWrongFalsely : Prop := wordPutsRow.holds Try.pinned (OpenSpec.ofChange wordPutsWrong)

/-- 'busbarlaw1.WordSigned': WHATEVER THE INPUT: true; the input reads as it did. -/
def wordSignedSpec : ChangeSpec := { name := "wordSigned", fn := fun _ => fun
  | [d1, d2] => { results := [.lit (.bool true)], args := [d1, d2] }
  | _ => none }
def wordSignedRow : OpenClaim := { program := "ytkfdombneaikfaa", sum := "cf30b5a808f5e14db3cfe1f608009b6fa99e847d52b837d1e97ad6275f0ee696", func := "busbar/busbarlaw1.WordSigned", spec := "wordSigned", apart := false }
def WordSignedSaid : Prop := wordSignedRow.holds Try.pinned (OpenSpec.ofChange wordSignedSpec)

/-- ITS FALSE NEIGHBOUR: 'it returns false'. Refute it at one input. -/
def wordSignedWrong : ChangeSpec := { name := "wordSigned", fn := fun _ => fun
  | [d1, d2] => { results := [.lit (.bool false)], args := [d1, d2] }
  | _ => none }
def WordSignedWrongFalsely : Prop := wordSignedRow.holds Try.pinned (OpenSpec.ofChange wordSignedWrong)

/-- 'busbarlaw1.WordRow': WHATEVER THE INPUT: true; the input reads as it did. -/
def wordRowSpec : ChangeSpec := { name := "wordRow", fn := fun _ => fun
  | [d] => { results := [.lit (.bool true)], args := [d] }
  | _ => none }
def wordRowRow : OpenClaim := { program := "ytkfdombneaikfaa", sum := "cf30b5a808f5e14db3cfe1f608009b6fa99e847d52b837d1e97ad6275f0ee696", func := "busbar/busbarlaw1.WordRow", spec := "wordRow", apart := false }
def WordRowSaid : Prop := wordRowRow.holds Try.pinned (OpenSpec.ofChange wordRowSpec)

/-- ITS FALSE NEIGHBOUR: 'it returns false'. Refute it at one input. -/
def wordRowWrong : ChangeSpec := { name := "wordRow", fn := fun _ => fun
  | [d] => { results := [.lit (.bool false)], args := [d] }
  | _ => none }
def WordRowWrongFalsely : Prop := wordRowRow.holds Try.pinned (OpenSpec.ofChange wordRowWrong)

/-- 'busbarlaw1.WordSplits': WHATEVER THE INPUT: true; the input reads as it did. -/
def wordSplitsSpec : ChangeSpec := { name := "wordSplits", fn := fun _ => fun
  | [d1, d2, d3] => { results := [.lit (.bool true)], args := [d1, d2, d3] }
  | _ => none }
def wordSplitsRow : OpenClaim := { program := "ytkfdombneaikfaa", sum := "cf30b5a808f5e14db3cfe1f608009b6fa99e847d52b837d1e97ad6275f0ee696", func := "busbar/busbarlaw1.WordSplits", spec := "wordSplits", apart := false }
def WordSplitsSaid : Prop := wordSplitsRow.holds Try.pinned (OpenSpec.ofChange wordSplitsSpec)

/-- ITS FALSE NEIGHBOUR: 'it returns false'. Refute it at one input. -/
def wordSplitsWrong : ChangeSpec := { name := "wordSplits", fn := fun _ => fun
  | [d1, d2, d3] => { results := [.lit (.bool false)], args := [d1, d2, d3] }
  | _ => none }
def WordSplitsWrongFalsely : Prop := wordSplitsRow.holds Try.pinned (OpenSpec.ofChange wordSplitsWrong)

/-- 'busbarlaw1.WordJoins': WHATEVER THE INPUT: true; the input reads as it did. -/
def wordJoinsSpec : ChangeSpec := { name := "wordJoins", fn := fun _ => fun
  | [d1, d2] => { results := [.lit (.bool true)], args := [d1, d2] }
  | _ => none }
def wordJoinsRow : OpenClaim := { program := "ytkfdombneaikfaa", sum := "cf30b5a808f5e14db3cfe1f608009b6fa99e847d52b837d1e97ad6275f0ee696", func := "busbar/busbarlaw1.WordJoins", spec := "wordJoins", apart := false }
def WordJoinsSaid : Prop := wordJoinsRow.holds Try.pinned (OpenSpec.ofChange wordJoinsSpec)

/-- ITS FALSE NEIGHBOUR: 'it returns false'. Refute it at one input. -/
def wordJoinsWrong : ChangeSpec := { name := "wordJoins", fn := fun _ => fun
  | [d1, d2] => { results := [.lit (.bool false)], args := [d1, d2] }
  | _ => none }
def WordJoinsWrongFalsely : Prop := wordJoinsRow.holds Try.pinned (OpenSpec.ofChange wordJoinsWrong)

/-- 'busbarlaw9.RingPlays': WHATEVER THE INPUT: true; the input reads as it did. -/
def ringPlaysSpec : ChangeSpec := { name := "ringPlays", fn := fun _ => fun
  | [d1, d2, d3] => { results := [.lit (.bool true)], args := [d1, d2, d3] }
  | _ => none }
def ringPlaysRow : OpenClaim := { program := "ytkfdombneaikfaa", sum := "cf30b5a808f5e14db3cfe1f608009b6fa99e847d52b837d1e97ad6275f0ee696", func := "busbar/busbarlaw9.RingPlays", spec := "ringPlays", apart := false }
def RingPlaysSaid : Prop := ringPlaysRow.holds Try.pinned (OpenSpec.ofChange ringPlaysSpec)

/-- ITS FALSE NEIGHBOUR: 'it returns false'. Refute it at one input. -/
def ringPlaysWrong : ChangeSpec := { name := "ringPlays", fn := fun _ => fun
  | [d1, d2, d3] => { results := [.lit (.bool false)], args := [d1, d2, d3] }
  | _ => none }
def RingPlaysWrongFalsely : Prop := ringPlaysRow.holds Try.pinned (OpenSpec.ofChange ringPlaysWrong)

/-- 'busbarlaw9.RingOrder': WHATEVER THE INPUT: true; the input reads as it did. -/
def ringOrderSpec : ChangeSpec := { name := "ringOrder", fn := fun _ => fun
  | [d1, d2, d3] => { results := [.lit (.bool true)], args := [d1, d2, d3] }
  | _ => none }
def ringOrderRow : OpenClaim := { program := "ytkfdombneaikfaa", sum := "cf30b5a808f5e14db3cfe1f608009b6fa99e847d52b837d1e97ad6275f0ee696", func := "busbar/busbarlaw9.RingOrder", spec := "ringOrder", apart := false }
def RingOrderSaid : Prop := ringOrderRow.holds Try.pinned (OpenSpec.ofChange ringOrderSpec)

/-- ITS FALSE NEIGHBOUR: 'it returns false'. Refute it at one input. -/
def ringOrderWrong : ChangeSpec := { name := "ringOrder", fn := fun _ => fun
  | [d1, d2, d3] => { results := [.lit (.bool false)], args := [d1, d2, d3] }
  | _ => none }
def RingOrderWrongFalsely : Prop := ringOrderRow.holds Try.pinned (OpenSpec.ofChange ringOrderWrong)

/-- 'busbarlaw9.RingFull': WHATEVER THE INPUT: true; the input reads as it did. -/
def ringFullSpec : ChangeSpec := { name := "ringFull", fn := fun _ => fun
  | [d1, d2, d3] => { results := [.lit (.bool true)], args := [d1, d2, d3] }
  | _ => none }
def ringFullRow : OpenClaim := { program := "ytkfdombneaikfaa", sum := "cf30b5a808f5e14db3cfe1f608009b6fa99e847d52b837d1e97ad6275f0ee696", func := "busbar/busbarlaw9.RingFull", spec := "ringFull", apart := false }
def RingFullSaid : Prop := ringFullRow.holds Try.pinned (OpenSpec.ofChange ringFullSpec)

/-- ITS FALSE NEIGHBOUR: 'it returns false'. Refute it at one input. -/
def ringFullWrong : ChangeSpec := { name := "ringFull", fn := fun _ => fun
  | [d1, d2, d3] => { results := [.lit (.bool false)], args := [d1, d2, d3] }
  | _ => none }
def RingFullWrongFalsely : Prop := ringFullRow.holds Try.pinned (OpenSpec.ofChange ringFullWrong)

/-- 'busbarlaw4.HeadPuts': WHATEVER THE INPUT: true; the input reads as it did. -/
def headPutsSpec : ChangeSpec := { name := "headPuts", fn := fun _ => fun
  | [d1, d2, d3, d4] => { results := [.lit (.bool true)], args := [d1, d2, d3, d4] }
  | _ => none }
def headPutsRow : OpenClaim := { program := "ytkfdombneaikfaa", sum := "cf30b5a808f5e14db3cfe1f608009b6fa99e847d52b837d1e97ad6275f0ee696", func := "busbar/busbarlaw4.HeadPuts", spec := "headPuts", apart := false }
def HeadPutsSaid : Prop := headPutsRow.holds Try.pinned (OpenSpec.ofChange headPutsSpec)

/-- ITS FALSE NEIGHBOUR: 'it returns false'. Refute it at one input. -/
def headPutsWrong : ChangeSpec := { name := "headPuts", fn := fun _ => fun
  | [d1, d2, d3, d4] => { results := [.lit (.bool false)], args := [d1, d2, d3, d4] }
  | _ => none }
def HeadPutsWrongFalsely : Prop := headPutsRow.holds Try.pinned (OpenSpec.ofChange headPutsWrong)

/-- 'busbarlaw4.HeadGets': WHATEVER THE INPUT: true; the input reads as it did. -/
def headGetsSpec : ChangeSpec := { name := "headGets", fn := fun _ => fun
  | [d1, d2] => { results := [.lit (.bool true)], args := [d1, d2] }
  | _ => none }
def headGetsRow : OpenClaim := { program := "ytkfdombneaikfaa", sum := "cf30b5a808f5e14db3cfe1f608009b6fa99e847d52b837d1e97ad6275f0ee696", func := "busbar/busbarlaw4.HeadGets", spec := "headGets", apart := false }
def HeadGetsSaid : Prop := headGetsRow.holds Try.pinned (OpenSpec.ofChange headGetsSpec)

/-- ITS FALSE NEIGHBOUR: 'it returns false'. Refute it at one input. -/
def headGetsWrong : ChangeSpec := { name := "headGets", fn := fun _ => fun
  | [d1, d2] => { results := [.lit (.bool false)], args := [d1, d2] }
  | _ => none }
def HeadGetsWrongFalsely : Prop := headGetsRow.holds Try.pinned (OpenSpec.ofChange headGetsWrong)

/-- 'busbarlaw4.HeadFronts': WHATEVER THE INPUT: true; the input reads as it did. -/
def headFrontsSpec : ChangeSpec := { name := "headFronts", fn := fun _ => fun
  | [d1, d2, d3, d4] => { results := [.lit (.bool true)], args := [d1, d2, d3, d4] }
  | _ => none }
def headFrontsRow : OpenClaim := { program := "ytkfdombneaikfaa", sum := "cf30b5a808f5e14db3cfe1f608009b6fa99e847d52b837d1e97ad6275f0ee696", func := "busbar/busbarlaw4.HeadFronts", spec := "headFronts", apart := false }
def HeadFrontsSaid : Prop := headFrontsRow.holds Try.pinned (OpenSpec.ofChange headFrontsSpec)

/-- ITS FALSE NEIGHBOUR: 'it returns false'. Refute it at one input. -/
def headFrontsWrong : ChangeSpec := { name := "headFronts", fn := fun _ => fun
  | [d1, d2, d3, d4] => { results := [.lit (.bool false)], args := [d1, d2, d3, d4] }
  | _ => none }
def HeadFrontsWrongFalsely : Prop := headFrontsRow.holds Try.pinned (OpenSpec.ofChange headFrontsWrong)

/- THE SECOND FORM. 'bulk': how many values and letters a reading holds, each counted each time it is reached (what is shared counts as often as it is met; a slice's spare places count too). A statement '..UptoSaid' is the law's where the arguments, and the package variables that the reading takes, are together of bulk at most 1048576: NARROWER than '..Said'. Prove '..Said' where nothing that the law and all that it calls make is longer than what came in: it says more and counts as full. Else prove '..UptoSaid'. A law counts once. -/
mutual
def uptoBulk {H : Type} : DataW H → Nat
  | .lit (.string bytes) => bytes.length + 1
  | .lit _ => 1
  | .nil => 1
  | .ptr d => uptoBulk d + 1
  | .slice elems spare => uptoBulkAll elems + uptoBulkAll spare + 1
  | .agg parts => uptoBulkAll parts + 1
  | .iface _ d => uptoBulk d + 1
  | .map entries => uptoBulkEntries entries + 1
  | .held _ => 1
def uptoBulkAll {H : Type} : List (DataW H) → Nat
  | [] => 0
  | d :: r => uptoBulk d + uptoBulkAll r
def uptoBulkEntries {H : Type} : List (Lit × DataW H) → Nat
  | [] => 0
  | x :: r => uptoBulkEntry x + uptoBulkEntries r
def uptoBulkEntry {H : Type} : Lit × DataW H → Nat
  | (.string bytes, d) => bytes.length + uptoBulk d + 1
  | (_, d) => uptoBulk d + 1
 end
def uptoSmall : (H : Type) → List (DataW H) → Bool := fun _ ds => decide (uptoBulkAll ds ≤ 1048576)
def OpenSpec.upto (s : _root_.Go.ChangeSpec) : _root_.Go.OpenSpec := { _root_.Go.OpenSpec.ofChange s with cond := some uptoSmall }

/-- 'busbarlaw1.WordTurns', WHERE WHAT IT READS IS OF BULK AT MOST 1048576: true; the input reads as it did. -/
def wordTurnsUptoRow : OpenClaim := { program := "ytkfdombneaikfaa", sum := "cf30b5a808f5e14db3cfe1f608009b6fa99e847d52b837d1e97ad6275f0ee696", func := "busbar/busbarlaw1.WordTurns", spec := "wordTurns", apart := false, narrowed := true }
def WordTurnsUptoSaid : Prop := wordTurnsUptoRow.holds Try.pinned (OpenSpec.upto wordTurnsSpec)

/-- 'busbarlaw1.WordPuts', WHERE WHAT IT READS IS OF BULK AT MOST 1048576: true; the input reads as it did. -/
def wordPutsUptoRow : OpenClaim := { program := "ytkfdombneaikfaa", sum := "cf30b5a808f5e14db3cfe1f608009b6fa99e847d52b837d1e97ad6275f0ee696", func := "busbar/busbarlaw1.WordPuts", spec := "wordPuts", apart := false, narrowed := true }
def WordPutsUptoSaid : Prop := wordPutsUptoRow.holds Try.pinned (OpenSpec.upto wordPutsSpec)

/-- 'busbarlaw1.WordSigned', WHERE WHAT IT READS IS OF BULK AT MOST 1048576: true; the input reads as it did. -/
def wordSignedUptoRow : OpenClaim := { program := "ytkfdombneaikfaa", sum := "cf30b5a808f5e14db3cfe1f608009b6fa99e847d52b837d1e97ad6275f0ee696", func := "busbar/busbarlaw1.WordSigned", spec := "wordSigned", apart := false, narrowed := true }
def WordSignedUptoSaid : Prop := wordSignedUptoRow.holds Try.pinned (OpenSpec.upto wordSignedSpec)

/-- 'busbarlaw1.WordRow', WHERE WHAT IT READS IS OF BULK AT MOST 1048576: true; the input reads as it did. -/
def wordRowUptoRow : OpenClaim := { program := "ytkfdombneaikfaa", sum := "cf30b5a808f5e14db3cfe1f608009b6fa99e847d52b837d1e97ad6275f0ee696", func := "busbar/busbarlaw1.WordRow", spec := "wordRow", apart := false, narrowed := true }
def WordRowUptoSaid : Prop := wordRowUptoRow.holds Try.pinned (OpenSpec.upto wordRowSpec)

/-- 'busbarlaw1.WordSplits', WHERE WHAT IT READS IS OF BULK AT MOST 1048576: true; the input reads as it did. -/
def wordSplitsUptoRow : OpenClaim := { program := "ytkfdombneaikfaa", sum := "cf30b5a808f5e14db3cfe1f608009b6fa99e847d52b837d1e97ad6275f0ee696", func := "busbar/busbarlaw1.WordSplits", spec := "wordSplits", apart := false, narrowed := true }
def WordSplitsUptoSaid : Prop := wordSplitsUptoRow.holds Try.pinned (OpenSpec.upto wordSplitsSpec)

/-- 'busbarlaw1.WordJoins', WHERE WHAT IT READS IS OF BULK AT MOST 1048576: true; the input reads as it did. -/
def wordJoinsUptoRow : OpenClaim := { program := "ytkfdombneaikfaa", sum := "cf30b5a808f5e14db3cfe1f608009b6fa99e847d52b837d1e97ad6275f0ee696", func := "busbar/busbarlaw1.WordJoins", spec := "wordJoins", apart := false, narrowed := true }
def WordJoinsUptoSaid : Prop := wordJoinsUptoRow.holds Try.pinned (OpenSpec.upto wordJoinsSpec)

/-- 'busbarlaw9.RingPlays', WHERE WHAT IT READS IS OF BULK AT MOST 1048576: true; the input reads as it did. -/
def ringPlaysUptoRow : OpenClaim := { program := "ytkfdombneaikfaa", sum := "cf30b5a808f5e14db3cfe1f608009b6fa99e847d52b837d1e97ad6275f0ee696", func := "busbar/busbarlaw9.RingPlays", spec := "ringPlays", apart := false, narrowed := true }
def RingPlaysUptoSaid : Prop := ringPlaysUptoRow.holds Try.pinned (OpenSpec.upto ringPlaysSpec)

/-- 'busbarlaw9.RingOrder', WHERE WHAT IT READS IS OF BULK AT MOST 1048576: true; the input reads as it did. -/
def ringOrderUptoRow : OpenClaim := { program := "ytkfdombneaikfaa", sum := "cf30b5a808f5e14db3cfe1f608009b6fa99e847d52b837d1e97ad6275f0ee696", func := "busbar/busbarlaw9.RingOrder", spec := "ringOrder", apart := false, narrowed := true }
def RingOrderUptoSaid : Prop := ringOrderUptoRow.holds Try.pinned (OpenSpec.upto ringOrderSpec)

/-- 'busbarlaw9.RingFull', WHERE WHAT IT READS IS OF BULK AT MOST 1048576: true; the input reads as it did. -/
def ringFullUptoRow : OpenClaim := { program := "ytkfdombneaikfaa", sum := "cf30b5a808f5e14db3cfe1f608009b6fa99e847d52b837d1e97ad6275f0ee696", func := "busbar/busbarlaw9.RingFull", spec := "ringFull", apart := false, narrowed := true }
def RingFullUptoSaid : Prop := ringFullUptoRow.holds Try.pinned (OpenSpec.upto ringFullSpec)

/-- 'busbarlaw4.HeadPuts', WHERE WHAT IT READS IS OF BULK AT MOST 1048576: true; the input reads as it did. -/
def headPutsUptoRow : OpenClaim := { program := "ytkfdombneaikfaa", sum := "cf30b5a808f5e14db3cfe1f608009b6fa99e847d52b837d1e97ad6275f0ee696", func := "busbar/busbarlaw4.HeadPuts", spec := "headPuts", apart := false, narrowed := true }
def HeadPutsUptoSaid : Prop := headPutsUptoRow.holds Try.pinned (OpenSpec.upto headPutsSpec)

/-- 'busbarlaw4.HeadGets', WHERE WHAT IT READS IS OF BULK AT MOST 1048576: true; the input reads as it did. -/
def headGetsUptoRow : OpenClaim := { program := "ytkfdombneaikfaa", sum := "cf30b5a808f5e14db3cfe1f608009b6fa99e847d52b837d1e97ad6275f0ee696", func := "busbar/busbarlaw4.HeadGets", spec := "headGets", apart := false, narrowed := true }
def HeadGetsUptoSaid : Prop := headGetsUptoRow.holds Try.pinned (OpenSpec.upto headGetsSpec)

/-- 'busbarlaw4.HeadFronts', WHERE WHAT IT READS IS OF BULK AT MOST 1048576: true; the input reads as it did. -/
def headFrontsUptoRow : OpenClaim := { program := "ytkfdombneaikfaa", sum := "cf30b5a808f5e14db3cfe1f608009b6fa99e847d52b837d1e97ad6275f0ee696", func := "busbar/busbarlaw4.HeadFronts", spec := "headFronts", apart := false, narrowed := true }
def HeadFrontsUptoSaid : Prop := headFrontsUptoRow.holds Try.pinned (OpenSpec.upto headFrontsSpec)

end Rows
end Go.Proofs.Ytkfdombneaikfaa
