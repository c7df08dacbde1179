/-
  No cell of these rows narrows 'for every input' (looked for: loops, veiled, ifaces, maps, wideKeys, modest, calm, conditions, laid).
  DERIVED. THE GIVEN ROWS OF THIS SEAT. 8 by the template 'for every input the law returns true; each argument reads behind the call as it read before'; 0 by the template 'total and deterministic' (their statements: YtgbclemmadkcmaaTotals.lean).
  GIVEN WITH THE SEED: the statements are not yours to turn. If you find one false, say at which input.
  Laid BY PROGRAM, IN A SANDBOX (cutbox-rows.mjs): the forced cells as the released guide's own fill.sh prints them over the translation f1504b1d783837d0… (all of the seat's roots in one cut). By AI agents, Wed Nov 11 2026. No macro, syntax, notation, axiom, sorry.
-/
import Derived.Test.YtgbclemmadkcmaaChecked
import GoSem.Claim
import GoSem.ClaimJoined
import GoSem.ClaimMapViews
import Derived.JoinedTies
import Derived.KernelRfl
namespace Go.Proofs.Ytgbclemmadkcmaa
/- THE CELL 'sum', in the pinned program and in every row, IS THE sha256 OF THE DUMP (.gsa) THAT YtgbclemmadkcmaaProg.lean LOADS. Nothing in Lean hashes anything: it is a label: what it is worth is what the hold of that sum in a sandbox is worth. -/
noncomputable def Try.pinned : Pinned := { name := "ytgbclemmadkcmaa", sum := "f1504b1d783837d0ff05249bc9ea328ba050724f3a1eabd46ce4db142b7c5281", checked := Try.checked }
namespace Rows
def none {H : Type} : Left H := { results := [], args := [] }

/-- 'busbarlaw8.AduTells': WHATEVER THE INPUT: true; the input reads as it did. -/
def aduTellsSpec : ChangeSpec := { name := "aduTells", fn := fun _ => fun
  | [d1, d2, d3, d4, d5] => { results := [.lit (.bool true)], args := [d1, d2, d3, d4, d5] }
  | _ => none }
def aduTellsRow : OpenClaim := { program := "ytgbclemmadkcmaa", sum := "f1504b1d783837d0ff05249bc9ea328ba050724f3a1eabd46ce4db142b7c5281", func := "busbar/busbarlaw8.AduTells", spec := "aduTells", apart := false }
def AduTellsSaid : Prop := aduTellsRow.holds Try.pinned (OpenSpec.ofChange aduTellsSpec)

/-- ITS FALSE NEIGHBOUR: 'it returns false'. Refute it at one input. -/
def aduTellsWrong : ChangeSpec := { name := "aduTells", fn := fun _ => fun
  | [d1, d2, d3, d4, d5] => { results := [.lit (.bool false)], args := [d1, d2, d3, d4, d5] }
  | _ => none }
def AduTellsWrongFalsely : Prop := aduTellsRow.holds Try.pinned (OpenSpec.ofChange aduTellsWrong)

/-- 'busbarlaw8.AduCuts': WHATEVER THE INPUT: true; the input reads as it did. -/
def aduCutsSpec : ChangeSpec := { name := "aduCuts", fn := fun _ => fun
  | [d1, d2, d3] => { results := [.lit (.bool true)], args := [d1, d2, d3] }
  | _ => none }
def aduCutsRow : OpenClaim := { program := "ytgbclemmadkcmaa", sum := "f1504b1d783837d0ff05249bc9ea328ba050724f3a1eabd46ce4db142b7c5281", func := "busbar/busbarlaw8.AduCuts", spec := "aduCuts", apart := false }
def AduCutsSaid : Prop := aduCutsRow.holds Try.pinned (OpenSpec.ofChange aduCutsSpec)

/-- ITS FALSE NEIGHBOUR: 'it returns false'. Refute it at one input. -/
def aduCutsWrong : ChangeSpec := { name := "aduCuts", fn := fun _ => fun
  | [d1, d2, d3] => { results := [.lit (.bool false)], args := [d1, d2, d3] }
  | _ => none }
def AduCutsWrongFalsely : Prop := aduCutsRow.holds Try.pinned (OpenSpec.ofChange aduCutsWrong)

/-- 'busbarlaw8.AduRow': WHATEVER THE INPUT: true; the input reads as it did. -/
def aduRowSpec : ChangeSpec := { name := "aduRow", fn := fun _ => fun
  | [d1, d2] => { results := [.lit (.bool true)], args := [d1, d2] }
  | _ => none }
def aduRowRow : OpenClaim := { program := "ytgbclemmadkcmaa", sum := "f1504b1d783837d0ff05249bc9ea328ba050724f3a1eabd46ce4db142b7c5281", func := "busbar/busbarlaw8.AduRow", spec := "aduRow", apart := false }
def AduRowSaid : Prop := aduRowRow.holds Try.pinned (OpenSpec.ofChange aduRowSpec)

/-- ITS FALSE NEIGHBOUR: 'it returns false'. Refute it at one input. -/
def aduRowWrong : ChangeSpec := { name := "aduRow", fn := fun _ => fun
  | [d1, d2] => { results := [.lit (.bool false)], args := [d1, d2] }
  | _ => none }
def AduRowWrongFalsely : Prop := aduRowRow.holds Try.pinned (OpenSpec.ofChange aduRowWrong)

/-- 'busbarlaw8.AduFronts': WHATEVER THE INPUT: true; the input reads as it did. -/
def aduFrontsSpec : ChangeSpec := { name := "aduFronts", fn := fun _ => fun
  | [d1, d2] => { results := [.lit (.bool true)], args := [d1, d2] }
  | _ => none }
def aduFrontsRow : OpenClaim := { program := "ytgbclemmadkcmaa", sum := "f1504b1d783837d0ff05249bc9ea328ba050724f3a1eabd46ce4db142b7c5281", func := "busbar/busbarlaw8.AduFronts", spec := "aduFronts", apart := false }
def AduFrontsSaid : Prop := aduFrontsRow.holds Try.pinned (OpenSpec.ofChange aduFrontsSpec)

/-- ITS FALSE NEIGHBOUR: 'it returns false'. Refute it at one input. -/
def aduFrontsWrong : ChangeSpec := { name := "aduFronts", fn := fun _ => fun
  | [d1, d2] => { results := [.lit (.bool false)], args := [d1, d2] }
  | _ => none }
def AduFrontsWrongFalsely : Prop := aduFrontsRow.holds Try.pinned (OpenSpec.ofChange aduFrontsWrong)

/-- 'busbarlaw10.FlowRoom': WHATEVER THE INPUT: true; the input reads as it did. -/
def flowRoomSpec : ChangeSpec := { name := "flowRoom", fn := fun _ => fun
  | [d1, d2, d3] => { results := [.lit (.bool true)], args := [d1, d2, d3] }
  | _ => none }
def flowRoomRow : OpenClaim := { program := "ytgbclemmadkcmaa", sum := "f1504b1d783837d0ff05249bc9ea328ba050724f3a1eabd46ce4db142b7c5281", func := "busbar/busbarlaw10.FlowRoom", spec := "flowRoom", unfollowed := true, recurses := true, apart := false }
def FlowRoomSaid : Prop := flowRoomRow.holds Try.pinned (OpenSpec.ofChange flowRoomSpec)

/-- ITS FALSE NEIGHBOUR: 'it returns false'. Refute it at one input. -/
def flowRoomWrong : ChangeSpec := { name := "flowRoom", fn := fun _ => fun
  | [d1, d2, d3] => { results := [.lit (.bool false)], args := [d1, d2, d3] }
  | _ => none }
def FlowRoomWrongFalsely : Prop := flowRoomRow.holds Try.pinned (OpenSpec.ofChange flowRoomWrong)

/-- 'busbarlaw10.FlowPlays': WHATEVER THE INPUT: true; the input reads as it did. -/
def flowPlaysSpec : ChangeSpec := { name := "flowPlays", fn := fun _ => fun
  | [d1, d2, d3, d4, d5, d6] => { results := [.lit (.bool true)], args := [d1, d2, d3, d4, d5, d6] }
  | _ => none }
def flowPlaysRow : OpenClaim := { program := "ytgbclemmadkcmaa", sum := "f1504b1d783837d0ff05249bc9ea328ba050724f3a1eabd46ce4db142b7c5281", func := "busbar/busbarlaw10.FlowPlays", spec := "flowPlays", unfollowed := true, recurses := true, apart := false }
def FlowPlaysSaid : Prop := flowPlaysRow.holds Try.pinned (OpenSpec.ofChange flowPlaysSpec)

/-- ITS FALSE NEIGHBOUR: 'it returns false'. Refute it at one input. -/
def flowPlaysWrong : ChangeSpec := { name := "flowPlays", fn := fun _ => fun
  | [d1, d2, d3, d4, d5, d6] => { results := [.lit (.bool false)], args := [d1, d2, d3, d4, d5, d6] }
  | _ => none }
def FlowPlaysWrongFalsely : Prop := flowPlaysRow.holds Try.pinned (OpenSpec.ofChange flowPlaysWrong)

/-- 'busbarlaw10.FlowCuts': WHATEVER THE INPUT: true; the input reads as it did. -/
def flowCutsSpec : ChangeSpec := { name := "flowCuts", fn := fun _ => fun
  | [d1, d2] => { results := [.lit (.bool true)], args := [d1, d2] }
  | _ => none }
def flowCutsRow : OpenClaim := { program := "ytgbclemmadkcmaa", sum := "f1504b1d783837d0ff05249bc9ea328ba050724f3a1eabd46ce4db142b7c5281", func := "busbar/busbarlaw10.FlowCuts", spec := "flowCuts", unfollowed := true, recurses := true, apart := false }
def FlowCutsSaid : Prop := flowCutsRow.holds Try.pinned (OpenSpec.ofChange flowCutsSpec)

/-- ITS FALSE NEIGHBOUR: 'it returns false'. Refute it at one input. -/
def flowCutsWrong : ChangeSpec := { name := "flowCuts", fn := fun _ => fun
  | [d1, d2] => { results := [.lit (.bool false)], args := [d1, d2] }
  | _ => none }
def FlowCutsWrongFalsely : Prop := flowCutsRow.holds Try.pinned (OpenSpec.ofChange flowCutsWrong)

/-- 'busbarlaw10.FlowBad': WHATEVER THE INPUT: true; the input reads as it did. -/
def flowBadSpec : ChangeSpec := { name := "flowBad", fn := fun _ => fun
  | [d1, d2, d3, d4] => { results := [.lit (.bool true)], args := [d1, d2, d3, d4] }
  | _ => none }
def flowBadRow : OpenClaim := { program := "ytgbclemmadkcmaa", sum := "f1504b1d783837d0ff05249bc9ea328ba050724f3a1eabd46ce4db142b7c5281", func := "busbar/busbarlaw10.FlowBad", spec := "flowBad", unfollowed := true, recurses := true, apart := false }
def FlowBadSaid : Prop := flowBadRow.holds Try.pinned (OpenSpec.ofChange flowBadSpec)

/-- ITS FALSE NEIGHBOUR: 'it returns false'. Refute it at one input. -/
def flowBadWrong : ChangeSpec := { name := "flowBad", fn := fun _ => fun
  | [d1, d2, d3, d4] => { results := [.lit (.bool false)], args := [d1, d2, d3, d4] }
  | _ => none }
def FlowBadWrongFalsely : Prop := flowBadRow.holds Try.pinned (OpenSpec.ofChange flowBadWrong)

/- THE SECOND FORM. 'bulk': how many values and letters a reading holds, each counted each time it is reached (what is shared counts as often as it is met; a slice's spare places count too). A statement '..UptoSaid' is the law's where the arguments, and the package variables that the reading takes, are together of bulk at most 1048576: NARROWER than '..Said'. Prove '..Said' where nothing that the law and all that it calls make is longer than what came in: it says more and counts as full. Else prove '..UptoSaid'. A law counts once. -/
mutual
def uptoBulk {H : Type} : DataW H → Nat
  | .lit (.string bytes) => bytes.length + 1
  | .lit _ => 1
  | .nil => 1
  | .ptr d => uptoBulk d + 1
  | .slice elems spare => uptoBulkAll elems + uptoBulkAll spare + 1
  | .agg parts => uptoBulkAll parts + 1
  | .iface _ d => uptoBulk d + 1
  | .map entries => uptoBulkEntries entries + 1
  | .held _ => 1
def uptoBulkAll {H : Type} : List (DataW H) → Nat
  | [] => 0
  | d :: r => uptoBulk d + uptoBulkAll r
def uptoBulkEntries {H : Type} : List (Lit × DataW H) → Nat
  | [] => 0
  | x :: r => uptoBulkEntry x + uptoBulkEntries r
def uptoBulkEntry {H : Type} : Lit × DataW H → Nat
  | (.string bytes, d) => bytes.length + uptoBulk d + 1
  | (_, d) => uptoBulk d + 1
 end
def uptoSmall : (H : Type) → List (DataW H) → Bool := fun _ ds => decide (uptoBulkAll ds ≤ 1048576)
def OpenSpec.upto (s : _root_.Go.ChangeSpec) : _root_.Go.OpenSpec := { _root_.Go.OpenSpec.ofChange s with cond := some uptoSmall }

/-- 'busbarlaw8.AduTells', WHERE WHAT IT READS IS OF BULK AT MOST 1048576: true; the input reads as it did. -/
def aduTellsUptoRow : OpenClaim := { program := "ytgbclemmadkcmaa", sum := "f1504b1d783837d0ff05249bc9ea328ba050724f3a1eabd46ce4db142b7c5281", func := "busbar/busbarlaw8.AduTells", spec := "aduTells", apart := false, narrowed := true }
def AduTellsUptoSaid : Prop := aduTellsUptoRow.holds Try.pinned (OpenSpec.upto aduTellsSpec)

/-- 'busbarlaw8.AduCuts', WHERE WHAT IT READS IS OF BULK AT MOST 1048576: true; the input reads as it did. -/
def aduCutsUptoRow : OpenClaim := { program := "ytgbclemmadkcmaa", sum := "f1504b1d783837d0ff05249bc9ea328ba050724f3a1eabd46ce4db142b7c5281", func := "busbar/busbarlaw8.AduCuts", spec := "aduCuts", apart := false, narrowed := true }
def AduCutsUptoSaid : Prop := aduCutsUptoRow.holds Try.pinned (OpenSpec.upto aduCutsSpec)

/-- 'busbarlaw8.AduRow', WHERE WHAT IT READS IS OF BULK AT MOST 1048576: true; the input reads as it did. -/
def aduRowUptoRow : OpenClaim := { program := "ytgbclemmadkcmaa", sum := "f1504b1d783837d0ff05249bc9ea328ba050724f3a1eabd46ce4db142b7c5281", func := "busbar/busbarlaw8.AduRow", spec := "aduRow", apart := false, narrowed := true }
def AduRowUptoSaid : Prop := aduRowUptoRow.holds Try.pinned (OpenSpec.upto aduRowSpec)

/-- 'busbarlaw8.AduFronts', WHERE WHAT IT READS IS OF BULK AT MOST 1048576: true; the input reads as it did. -/
def aduFrontsUptoRow : OpenClaim := { program := "ytgbclemmadkcmaa", sum := "f1504b1d783837d0ff05249bc9ea328ba050724f3a1eabd46ce4db142b7c5281", func := "busbar/busbarlaw8.AduFronts", spec := "aduFronts", apart := false, narrowed := true }
def AduFrontsUptoSaid : Prop := aduFrontsUptoRow.holds Try.pinned (OpenSpec.upto aduFrontsSpec)

/-- 'busbarlaw10.FlowRoom', WHERE WHAT IT READS IS OF BULK AT MOST 1048576: true; the input reads as it did. -/
def flowRoomUptoRow : OpenClaim := { program := "ytgbclemmadkcmaa", sum := "f1504b1d783837d0ff05249bc9ea328ba050724f3a1eabd46ce4db142b7c5281", func := "busbar/busbarlaw10.FlowRoom", spec := "flowRoom", unfollowed := true, recurses := true, apart := false, narrowed := true }
def FlowRoomUptoSaid : Prop := flowRoomUptoRow.holds Try.pinned (OpenSpec.upto flowRoomSpec)

/-- 'busbarlaw10.FlowPlays', WHERE WHAT IT READS IS OF BULK AT MOST 1048576: true; the input reads as it did. -/
def flowPlaysUptoRow : OpenClaim := { program := "ytgbclemmadkcmaa", sum := "f1504b1d783837d0ff05249bc9ea328ba050724f3a1eabd46ce4db142b7c5281", func := "busbar/busbarlaw10.FlowPlays", spec := "flowPlays", unfollowed := true, recurses := true, apart := false, narrowed := true }
def FlowPlaysUptoSaid : Prop := flowPlaysUptoRow.holds Try.pinned (OpenSpec.upto flowPlaysSpec)

/-- 'busbarlaw10.FlowCuts', WHERE WHAT IT READS IS OF BULK AT MOST 1048576: true; the input reads as it did. -/
def flowCutsUptoRow : OpenClaim := { program := "ytgbclemmadkcmaa", sum := "f1504b1d783837d0ff05249bc9ea328ba050724f3a1eabd46ce4db142b7c5281", func := "busbar/busbarlaw10.FlowCuts", spec := "flowCuts", unfollowed := true, recurses := true, apart := false, narrowed := true }
def FlowCutsUptoSaid : Prop := flowCutsUptoRow.holds Try.pinned (OpenSpec.upto flowCutsSpec)

/-- 'busbarlaw10.FlowBad', WHERE WHAT IT READS IS OF BULK AT MOST 1048576: true; the input reads as it did. -/
def flowBadUptoRow : OpenClaim := { program := "ytgbclemmadkcmaa", sum := "f1504b1d783837d0ff05249bc9ea328ba050724f3a1eabd46ce4db142b7c5281", func := "busbar/busbarlaw10.FlowBad", spec := "flowBad", unfollowed := true, recurses := true, apart := false, narrowed := true }
def FlowBadUptoSaid : Prop := flowBadUptoRow.holds Try.pinned (OpenSpec.upto flowBadSpec)

end Rows
end Go.Proofs.Ytgbclemmadkcmaa
