/-
  No cell of these rows narrows 'for every input' (looked for: loops, veiled, ifaces, maps, wideKeys, modest, calm, conditions, laid).
  DERIVED. THE GIVEN ROWS OF THIS SEAT. 8 by the template 'for every input the law returns true; each argument reads behind the call as it read before'; 0 by the template 'total and deterministic' (their statements: YtakiojmjalbfpaaTotals.lean).
  GIVEN WITH THE SEED: the statements are not yours to turn. If you find one false, say at which input.
  Laid BY PROGRAM, IN A SANDBOX (cutbox-rows.mjs): the forced cells as the released guide's own fill.sh prints them over the translation b96af215af7d109a… (all of the seat's roots in one cut). By AI agents, Wed Nov 11 2026. No macro, syntax, notation, axiom, sorry.
-/
import Derived.Test.YtakiojmjalbfpaaChecked
import GoSem.Claim
import GoSem.ClaimJoined
import GoSem.ClaimMapViews
import Derived.JoinedTies
import Derived.KernelRfl
namespace Go.Proofs.Ytakiojmjalbfpaa
/- THE CELL 'sum', in the pinned program and in every row, IS THE sha256 OF THE DUMP (.gsa) THAT YtakiojmjalbfpaaProg.lean LOADS. Nothing in Lean hashes anything: it is a label: what it is worth is what the hold of that sum in a sandbox is worth. -/
noncomputable def Try.pinned : Pinned := { name := "ytakiojmjalbfpaa", sum := "b96af215af7d109a5a82fac4c962c73340ac3c2f5ebdb8cb3aa7a58c28fddd4a", checked := Try.checked }
namespace Rows
def none {H : Type} : Left H := { results := [], args := [] }

/-- 'busbarlaw9.RingPlays': WHATEVER THE INPUT: true; the input reads as it did. -/
def ringPlaysSpec : ChangeSpec := { name := "ringPlays", fn := fun _ => fun
  | [d1, d2, d3] => { results := [.lit (.bool true)], args := [d1, d2, d3] }
  | _ => none }
def ringPlaysRow : OpenClaim := { program := "ytakiojmjalbfpaa", sum := "b96af215af7d109a5a82fac4c962c73340ac3c2f5ebdb8cb3aa7a58c28fddd4a", func := "busbar/busbarlaw9.RingPlays", spec := "ringPlays", apart := false }
def RingPlaysSaid : Prop := ringPlaysRow.holds Try.pinned (OpenSpec.ofChange ringPlaysSpec)

/-- ITS FALSE NEIGHBOUR: 'it returns false'. Refute it at one input. -/
def ringPlaysWrong : ChangeSpec := { name := "ringPlays", fn := fun _ => fun
  | [d1, d2, d3] => { results := [.lit (.bool false)], args := [d1, d2, d3] }
  | _ => none }
def RingPlaysWrongFalsely : Prop := ringPlaysRow.holds Try.pinned (OpenSpec.ofChange ringPlaysWrong)

/-- 'busbarlaw9.RingOrder': WHATEVER THE INPUT: true; the input reads as it did. -/
def ringOrderSpec : ChangeSpec := { name := "ringOrder", fn := fun _ => fun
  | [d1, d2, d3] => { results := [.lit (.bool true)], args := [d1, d2, d3] }
  | _ => none }
def ringOrderRow : OpenClaim := { program := "ytakiojmjalbfpaa", sum := "b96af215af7d109a5a82fac4c962c73340ac3c2f5ebdb8cb3aa7a58c28fddd4a", func := "busbar/busbarlaw9.RingOrder", spec := "ringOrder", apart := false }
def RingOrderSaid : Prop := ringOrderRow.holds Try.pinned (OpenSpec.ofChange ringOrderSpec)

/-- ITS FALSE NEIGHBOUR: 'it returns false'. Refute it at one input. -/
def ringOrderWrong : ChangeSpec := { name := "ringOrder", fn := fun _ => fun
  | [d1, d2, d3] => { results := [.lit (.bool false)], args := [d1, d2, d3] }
  | _ => none }
def RingOrderWrongFalsely : Prop := ringOrderRow.holds Try.pinned (OpenSpec.ofChange ringOrderWrong)

/-- 'busbarlaw9.RingFull': WHATEVER THE INPUT: true; the input reads as it did. -/
def ringFullSpec : ChangeSpec := { name := "ringFull", fn := fun _ => fun
  | [d1, d2, d3] => { results := [.lit (.bool true)], args := [d1, d2, d3] }
  | _ => none }
def ringFullRow : OpenClaim := { program := "ytakiojmjalbfpaa", sum := "b96af215af7d109a5a82fac4c962c73340ac3c2f5ebdb8cb3aa7a58c28fddd4a", func := "busbar/busbarlaw9.RingFull", spec := "ringFull", apart := false }
def RingFullSaid : Prop := ringFullRow.holds Try.pinned (OpenSpec.ofChange ringFullSpec)

/-- ITS FALSE NEIGHBOUR: 'it returns false'. Refute it at one input. -/
def ringFullWrong : ChangeSpec := { name := "ringFull", fn := fun _ => fun
  | [d1, d2, d3] => { results := [.lit (.bool false)], args := [d1, d2, d3] }
  | _ => none }
def RingFullWrongFalsely : Prop := ringFullRow.holds Try.pinned (OpenSpec.ofChange ringFullWrong)

/-- 'busbarlaw8.AduRow': WHATEVER THE INPUT: true; the input reads as it did. -/
def aduRowSpec : ChangeSpec := { name := "aduRow", fn := fun _ => fun
  | [d1, d2] => { results := [.lit (.bool true)], args := [d1, d2] }
  | _ => none }
def aduRowRow : OpenClaim := { program := "ytakiojmjalbfpaa", sum := "b96af215af7d109a5a82fac4c962c73340ac3c2f5ebdb8cb3aa7a58c28fddd4a", func := "busbar/busbarlaw8.AduRow", spec := "aduRow", apart := false }
def AduRowSaid : Prop := aduRowRow.holds Try.pinned (OpenSpec.ofChange aduRowSpec)

/-- ITS FALSE NEIGHBOUR: 'it returns false'. Refute it at one input. -/
def aduRowWrong : ChangeSpec := { name := "aduRow", fn := fun _ => fun
  | [d1, d2] => { results := [.lit (.bool false)], args := [d1, d2] }
  | _ => none }
def AduRowWrongFalsely : Prop := aduRowRow.holds Try.pinned (OpenSpec.ofChange aduRowWrong)

/-- 'busbarlaw10.FlowRoom': WHATEVER THE INPUT: true; the input reads as it did. -/
def flowRoomSpec : ChangeSpec := { name := "flowRoom", fn := fun _ => fun
  | [d1, d2, d3] => { results := [.lit (.bool true)], args := [d1, d2, d3] }
  | _ => none }
def flowRoomRow : OpenClaim := { program := "ytakiojmjalbfpaa", sum := "b96af215af7d109a5a82fac4c962c73340ac3c2f5ebdb8cb3aa7a58c28fddd4a", func := "busbar/busbarlaw10.FlowRoom", spec := "flowRoom", unfollowed := true, recurses := true, apart := false }
def FlowRoomSaid : Prop := flowRoomRow.holds Try.pinned (OpenSpec.ofChange flowRoomSpec)

/-- ITS FALSE NEIGHBOUR: 'it returns false'. Refute it at one input. -/
def flowRoomWrong : ChangeSpec := { name := "flowRoom", fn := fun _ => fun
  | [d1, d2, d3] => { results := [.lit (.bool false)], args := [d1, d2, d3] }
  | _ => none }
def FlowRoomWrongFalsely : Prop := flowRoomRow.holds Try.pinned (OpenSpec.ofChange flowRoomWrong)

/-- 'busbarlaw10.FlowPlays': WHATEVER THE INPUT: true; the input reads as it did. -/
def flowPlaysSpec : ChangeSpec := { name := "flowPlays", fn := fun _ => fun
  | [d1, d2, d3, d4, d5, d6] => { results := [.lit (.bool true)], args := [d1, d2, d3, d4, d5, d6] }
  | _ => none }
def flowPlaysRow : OpenClaim := { program := "ytakiojmjalbfpaa", sum := "b96af215af7d109a5a82fac4c962c73340ac3c2f5ebdb8cb3aa7a58c28fddd4a", func := "busbar/busbarlaw10.FlowPlays", spec := "flowPlays", unfollowed := true, recurses := true, apart := false }
def FlowPlaysSaid : Prop := flowPlaysRow.holds Try.pinned (OpenSpec.ofChange flowPlaysSpec)

/-- ITS FALSE NEIGHBOUR: 'it returns false'. Refute it at one input. -/
def flowPlaysWrong : ChangeSpec := { name := "flowPlays", fn := fun _ => fun
  | [d1, d2, d3, d4, d5, d6] => { results := [.lit (.bool false)], args := [d1, d2, d3, d4, d5, d6] }
  | _ => none }
def FlowPlaysWrongFalsely : Prop := flowPlaysRow.holds Try.pinned (OpenSpec.ofChange flowPlaysWrong)

/-- 'busbarlaw10.FlowCuts': WHATEVER THE INPUT: true; the input reads as it did. -/
def flowCutsSpec : ChangeSpec := { name := "flowCuts", fn := fun _ => fun
  | [d1, d2] => { results := [.lit (.bool true)], args := [d1, d2] }
  | _ => none }
def flowCutsRow : OpenClaim := { program := "ytakiojmjalbfpaa", sum := "b96af215af7d109a5a82fac4c962c73340ac3c2f5ebdb8cb3aa7a58c28fddd4a", func := "busbar/busbarlaw10.FlowCuts", spec := "flowCuts", unfollowed := true, recurses := true, apart := false }
def FlowCutsSaid : Prop := flowCutsRow.holds Try.pinned (OpenSpec.ofChange flowCutsSpec)

/-- ITS FALSE NEIGHBOUR: 'it returns false'. Refute it at one input. -/
def flowCutsWrong : ChangeSpec := { name := "flowCuts", fn := fun _ => fun
  | [d1, d2] => { results := [.lit (.bool false)], args := [d1, d2] }
  | _ => none }
def FlowCutsWrongFalsely : Prop := flowCutsRow.holds Try.pinned (OpenSpec.ofChange flowCutsWrong)

/-- 'busbarlaw10.FlowBad': WHATEVER THE INPUT: true; the input reads as it did. -/
def flowBadSpec : ChangeSpec := { name := "flowBad", fn := fun _ => fun
  | [d1, d2, d3, d4] => { results := [.lit (.bool true)], args := [d1, d2, d3, d4] }
  | _ => none }
def flowBadRow : OpenClaim := { program := "ytakiojmjalbfpaa", sum := "b96af215af7d109a5a82fac4c962c73340ac3c2f5ebdb8cb3aa7a58c28fddd4a", func := "busbar/busbarlaw10.FlowBad", spec := "flowBad", unfollowed := true, recurses := true, apart := false }
def FlowBadSaid : Prop := flowBadRow.holds Try.pinned (OpenSpec.ofChange flowBadSpec)

/-- ITS FALSE NEIGHBOUR: 'it returns false'. Refute it at one input. -/
def flowBadWrong : ChangeSpec := { name := "flowBad", fn := fun _ => fun
  | [d1, d2, d3, d4] => { results := [.lit (.bool false)], args := [d1, d2, d3, d4] }
  | _ => none }
def FlowBadWrongFalsely : Prop := flowBadRow.holds Try.pinned (OpenSpec.ofChange flowBadWrong)

/- THE SECOND FORM. 'bulk': how many values and letters a reading holds, each counted each time it is reached (what is shared counts as often as it is met; a slice's spare places count too). A statement '..UptoSaid' is the law's where the arguments, and the package variables that the reading takes, are together of bulk at most 1048576: NARROWER than '..Said'. Prove '..Said' where nothing that the law and all that it calls make is longer than what came in: it says more and counts as full. Else prove '..UptoSaid'. A law counts once. -/
mutual
def uptoBulk {H : Type} : DataW H → Nat
  | .lit (.string bytes) => bytes.length + 1
  | .lit _ => 1
  | .nil => 1
  | .ptr d => uptoBulk d + 1
  | .slice elems spare => uptoBulkAll elems + uptoBulkAll spare + 1
  | .agg parts => uptoBulkAll parts + 1
  | .iface _ d => uptoBulk d + 1
  | .map entries => uptoBulkEntries entries + 1
  | .held _ => 1
def uptoBulkAll {H : Type} : List (DataW H) → Nat
  | [] => 0
  | d :: r => uptoBulk d + uptoBulkAll r
def uptoBulkEntries {H : Type} : List (Lit × DataW H) → Nat
  | [] => 0
  | x :: r => uptoBulkEntry x + uptoBulkEntries r
def uptoBulkEntry {H : Type} : Lit × DataW H → Nat
  | (.string bytes, d) => bytes.length + uptoBulk d + 1
  | (_, d) => uptoBulk d + 1
 end
def uptoSmall : (H : Type) → List (DataW H) → Bool := fun _ ds => decide (uptoBulkAll ds ≤ 1048576)
def OpenSpec.upto (s : _root_.Go.ChangeSpec) : _root_.Go.OpenSpec := { _root_.Go.OpenSpec.ofChange s with cond := some uptoSmall }

/-- 'busbarlaw9.RingPlays', WHERE WHAT IT READS IS OF BULK AT MOST 1048576: true; the input reads as it did. -/
def ringPlaysUptoRow : OpenClaim := { program := "ytakiojmjalbfpaa", sum := "b96af215af7d109a5a82fac4c962c73340ac3c2f5ebdb8cb3aa7a58c28fddd4a", func := "busbar/busbarlaw9.RingPlays", spec := "ringPlays", apart := false, narrowed := true }
def RingPlaysUptoSaid : Prop := ringPlaysUptoRow.holds Try.pinned (OpenSpec.upto ringPlaysSpec)

/-- 'busbarlaw9.RingOrder', WHERE WHAT IT READS IS OF BULK AT MOST 1048576: true; the input reads as it did. -/
def ringOrderUptoRow : OpenClaim := { program := "ytakiojmjalbfpaa", sum := "b96af215af7d109a5a82fac4c962c73340ac3c2f5ebdb8cb3aa7a58c28fddd4a", func := "busbar/busbarlaw9.RingOrder", spec := "ringOrder", apart := false, narrowed := true }
def RingOrderUptoSaid : Prop := ringOrderUptoRow.holds Try.pinned (OpenSpec.upto ringOrderSpec)

/-- 'busbarlaw9.RingFull', WHERE WHAT IT READS IS OF BULK AT MOST 1048576: true; the input reads as it did. -/
def ringFullUptoRow : OpenClaim := { program := "ytakiojmjalbfpaa", sum := "b96af215af7d109a5a82fac4c962c73340ac3c2f5ebdb8cb3aa7a58c28fddd4a", func := "busbar/busbarlaw9.RingFull", spec := "ringFull", apart := false, narrowed := true }
def RingFullUptoSaid : Prop := ringFullUptoRow.holds Try.pinned (OpenSpec.upto ringFullSpec)

/-- 'busbarlaw8.AduRow', WHERE WHAT IT READS IS OF BULK AT MOST 1048576: true; the input reads as it did. -/
def aduRowUptoRow : OpenClaim := { program := "ytakiojmjalbfpaa", sum := "b96af215af7d109a5a82fac4c962c73340ac3c2f5ebdb8cb3aa7a58c28fddd4a", func := "busbar/busbarlaw8.AduRow", spec := "aduRow", apart := false, narrowed := true }
def AduRowUptoSaid : Prop := aduRowUptoRow.holds Try.pinned (OpenSpec.upto aduRowSpec)

/-- 'busbarlaw10.FlowRoom', WHERE WHAT IT READS IS OF BULK AT MOST 1048576: true; the input reads as it did. -/
def flowRoomUptoRow : OpenClaim := { program := "ytakiojmjalbfpaa", sum := "b96af215af7d109a5a82fac4c962c73340ac3c2f5ebdb8cb3aa7a58c28fddd4a", func := "busbar/busbarlaw10.FlowRoom", spec := "flowRoom", unfollowed := true, recurses := true, apart := false, narrowed := true }
def FlowRoomUptoSaid : Prop := flowRoomUptoRow.holds Try.pinned (OpenSpec.upto flowRoomSpec)

/-- 'busbarlaw10.FlowPlays', WHERE WHAT IT READS IS OF BULK AT MOST 1048576: true; the input reads as it did. -/
def flowPlaysUptoRow : OpenClaim := { program := "ytakiojmjalbfpaa", sum := "b96af215af7d109a5a82fac4c962c73340ac3c2f5ebdb8cb3aa7a58c28fddd4a", func := "busbar/busbarlaw10.FlowPlays", spec := "flowPlays", unfollowed := true, recurses := true, apart := false, narrowed := true }
def FlowPlaysUptoSaid : Prop := flowPlaysUptoRow.holds Try.pinned (OpenSpec.upto flowPlaysSpec)

/-- 'busbarlaw10.FlowCuts', WHERE WHAT IT READS IS OF BULK AT MOST 1048576: true; the input reads as it did. -/
def flowCutsUptoRow : OpenClaim := { program := "ytakiojmjalbfpaa", sum := "b96af215af7d109a5a82fac4c962c73340ac3c2f5ebdb8cb3aa7a58c28fddd4a", func := "busbar/busbarlaw10.FlowCuts", spec := "flowCuts", unfollowed := true, recurses := true, apart := false, narrowed := true }
def FlowCutsUptoSaid : Prop := flowCutsUptoRow.holds Try.pinned (OpenSpec.upto flowCutsSpec)

/-- 'busbarlaw10.FlowBad', WHERE WHAT IT READS IS OF BULK AT MOST 1048576: true; the input reads as it did. -/
def flowBadUptoRow : OpenClaim := { program := "ytakiojmjalbfpaa", sum := "b96af215af7d109a5a82fac4c962c73340ac3c2f5ebdb8cb3aa7a58c28fddd4a", func := "busbar/busbarlaw10.FlowBad", spec := "flowBad", unfollowed := true, recurses := true, apart := false, narrowed := true }
def FlowBadUptoSaid : Prop := flowBadUptoRow.holds Try.pinned (OpenSpec.upto flowBadSpec)

end Rows
end Go.Proofs.Ytakiojmjalbfpaa
