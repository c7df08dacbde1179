/-
  No cell of these rows narrows 'for every input' (looked for: loops, veiled, ifaces, maps, wideKeys, modest, calm, conditions, laid).
  DERIVED. THE GIVEN ROWS OF THIS SEAT. 9 by the template 'for every input the law returns true; each argument reads behind the call as it read before'; 0 by the template 'total and deterministic' (their statements: YtkioalfallhegaaTotals.lean).
  GIVEN WITH THE SEED: the statements are not yours to turn. If you find one false, say at which input.
  Laid BY PROGRAM, IN A SANDBOX (cutbox-rows.mjs): the forced cells as the released guide's own fill.sh prints them over the translation 743d81ea78a13076… (all of the seat's roots in one cut). By AI agents, Wed Nov 11 2026. No macro, syntax, notation, axiom, sorry.
-/
import Derived.Test.YtkioalfallhegaaChecked
import GoSem.Claim
import GoSem.ClaimJoined
import GoSem.ClaimMapViews
import Derived.JoinedTies
import Derived.KernelRfl
namespace Go.Proofs.Ytkioalfallhegaa
/- THE CELL 'sum', in the pinned program and in every row, IS THE sha256 OF THE DUMP (.gsa) THAT YtkioalfallhegaaProg.lean LOADS. Nothing in Lean hashes anything: it is a label: what it is worth is what the hold of that sum in a sandbox is worth. -/
noncomputable def Try.pinned : Pinned := { name := "ytkioalfallhegaa", sum := "743d81ea78a13076ac9dd525c075ef8979ba94b44be4775d90fecd8a3d71edcb", checked := Try.checked }
namespace Rows
def none {H : Type} : Left H := { results := [], args := [] }

/-- 'busbarlaw23.CtrlOrders': WHATEVER THE INPUT: true; the input reads as it did. -/
def ctrlOrdersSpec : ChangeSpec := { name := "ctrlOrders", fn := fun _ => fun
  | [d1, d2, d3, d4, d5] => { results := [.lit (.bool true)], args := [d1, d2, d3, d4, d5] }
  | _ => none }
def ctrlOrdersRow : OpenClaim := { program := "ytkioalfallhegaa", sum := "743d81ea78a13076ac9dd525c075ef8979ba94b44be4775d90fecd8a3d71edcb", func := "busbar/busbarlaw23.CtrlOrders", spec := "ctrlOrders", apart := false }
def CtrlOrdersSaid : Prop := ctrlOrdersRow.holds Try.pinned (OpenSpec.ofChange ctrlOrdersSpec)

/-- ITS FALSE NEIGHBOUR: 'it returns false'. Refute it at one input. -/
def ctrlOrdersWrong : ChangeSpec := { name := "ctrlOrders", fn := fun _ => fun
  | [d1, d2, d3, d4, d5] => { results := [.lit (.bool false)], args := [d1, d2, d3, d4, d5] }
  | _ => none }
def CtrlOrdersWrongFalsely : Prop := ctrlOrdersRow.holds Try.pinned (OpenSpec.ofChange ctrlOrdersWrong)

/-- 'busbarlaw23.CtrlCommands': WHATEVER THE INPUT: true; the input reads as it did. -/
def ctrlCommandsSpec : ChangeSpec := { name := "ctrlCommands", fn := fun _ => fun
  | [d1, d2, d3] => { results := [.lit (.bool true)], args := [d1, d2, d3] }
  | _ => none }
def ctrlCommandsRow : OpenClaim := { program := "ytkioalfallhegaa", sum := "743d81ea78a13076ac9dd525c075ef8979ba94b44be4775d90fecd8a3d71edcb", func := "busbar/busbarlaw23.CtrlCommands", spec := "ctrlCommands", apart := false }
def CtrlCommandsSaid : Prop := ctrlCommandsRow.holds Try.pinned (OpenSpec.ofChange ctrlCommandsSpec)

/-- ITS FALSE NEIGHBOUR: 'it returns false'. Refute it at one input. -/
def ctrlCommandsWrong : ChangeSpec := { name := "ctrlCommands", fn := fun _ => fun
  | [d1, d2, d3] => { results := [.lit (.bool false)], args := [d1, d2, d3] }
  | _ => none }
def CtrlCommandsWrongFalsely : Prop := ctrlCommandsRow.holds Try.pinned (OpenSpec.ofChange ctrlCommandsWrong)

/-- 'busbarlaw23.CtrlTells': WHATEVER THE INPUT: true; the input reads as it did. -/
def ctrlTellsSpec : ChangeSpec := { name := "ctrlTells", fn := fun _ => fun
  | [d1, d2, d3, d4, d5, d6, d7] => { results := [.lit (.bool true)], args := [d1, d2, d3, d4, d5, d6, d7] }
  | _ => none }
def ctrlTellsRow : OpenClaim := { program := "ytkioalfallhegaa", sum := "743d81ea78a13076ac9dd525c075ef8979ba94b44be4775d90fecd8a3d71edcb", func := "busbar/busbarlaw23.CtrlTells", spec := "ctrlTells", apart := false }
def CtrlTellsSaid : Prop := ctrlTellsRow.holds Try.pinned (OpenSpec.ofChange ctrlTellsSpec)

/-- ITS FALSE NEIGHBOUR: 'it returns false'. Refute it at one input. -/
def ctrlTellsWrong : ChangeSpec := { name := "ctrlTells", fn := fun _ => fun
  | [d1, d2, d3, d4, d5, d6, d7] => { results := [.lit (.bool false)], args := [d1, d2, d3, d4, d5, d6, d7] }
  | _ => none }
def CtrlTellsWrongFalsely : Prop := ctrlTellsRow.holds Try.pinned (OpenSpec.ofChange ctrlTellsWrong)

/-- 'busbarlaw12.SpanTells': WHATEVER THE INPUT: true; the input reads as it did. -/
def spanTellsSpec : ChangeSpec := { name := "spanTells", fn := fun _ => fun
  | [d1, d2, d3, d4, d5] => { results := [.lit (.bool true)], args := [d1, d2, d3, d4, d5] }
  | _ => none }
def spanTellsRow : OpenClaim := { program := "ytkioalfallhegaa", sum := "743d81ea78a13076ac9dd525c075ef8979ba94b44be4775d90fecd8a3d71edcb", func := "busbar/busbarlaw12.SpanTells", spec := "spanTells", apart := false }
def SpanTellsSaid : Prop := spanTellsRow.holds Try.pinned (OpenSpec.ofChange spanTellsSpec)

/-- ITS FALSE NEIGHBOUR: 'it returns false'. Refute it at one input. -/
def spanTellsWrong : ChangeSpec := { name := "spanTells", fn := fun _ => fun
  | [d1, d2, d3, d4, d5] => { results := [.lit (.bool false)], args := [d1, d2, d3, d4, d5] }
  | _ => none }
def SpanTellsWrongFalsely : Prop := spanTellsRow.holds Try.pinned (OpenSpec.ofChange spanTellsWrong)

/-- 'busbarlaw12.SpanAdds': WHATEVER THE INPUT: true; the input reads as it did. -/
def spanAddsSpec : ChangeSpec := { name := "spanAdds", fn := fun _ => fun
  | [d1, d2] => { results := [.lit (.bool true)], args := [d1, d2] }
  | _ => none }
def spanAddsRow : OpenClaim := { program := "ytkioalfallhegaa", sum := "743d81ea78a13076ac9dd525c075ef8979ba94b44be4775d90fecd8a3d71edcb", func := "busbar/busbarlaw12.SpanAdds", spec := "spanAdds", apart := false }
def SpanAddsSaid : Prop := spanAddsRow.holds Try.pinned (OpenSpec.ofChange spanAddsSpec)

/-- ITS FALSE NEIGHBOUR: 'it returns false'. Refute it at one input. -/
def spanAddsWrong : ChangeSpec := { name := "spanAdds", fn := fun _ => fun
  | [d1, d2] => { results := [.lit (.bool false)], args := [d1, d2] }
  | _ => none }
def SpanAddsWrongFalsely : Prop := spanAddsRow.holds Try.pinned (OpenSpec.ofChange spanAddsWrong)

/-- 'busbarlaw12.SpanPoints': WHATEVER THE INPUT: true; the input reads as it did. -/
def spanPointsSpec : ChangeSpec := { name := "spanPoints", fn := fun _ => fun
  | [d1, d2, d3] => { results := [.lit (.bool true)], args := [d1, d2, d3] }
  | _ => none }
def spanPointsRow : OpenClaim := { program := "ytkioalfallhegaa", sum := "743d81ea78a13076ac9dd525c075ef8979ba94b44be4775d90fecd8a3d71edcb", func := "busbar/busbarlaw12.SpanPoints", spec := "spanPoints", apart := false }
def SpanPointsSaid : Prop := spanPointsRow.holds Try.pinned (OpenSpec.ofChange spanPointsSpec)

/-- ITS FALSE NEIGHBOUR: 'it returns false'. Refute it at one input. -/
def spanPointsWrong : ChangeSpec := { name := "spanPoints", fn := fun _ => fun
  | [d1, d2, d3] => { results := [.lit (.bool false)], args := [d1, d2, d3] }
  | _ => none }
def SpanPointsWrongFalsely : Prop := spanPointsRow.holds Try.pinned (OpenSpec.ofChange spanPointsWrong)

/-- 'busbarlaw12.SpanSizes': WHATEVER THE INPUT: true; the input reads as it did. -/
def spanSizesSpec : ChangeSpec := { name := "spanSizes", fn := fun _ => fun
  | [d1, d2] => { results := [.lit (.bool true)], args := [d1, d2] }
  | _ => none }
def spanSizesRow : OpenClaim := { program := "ytkioalfallhegaa", sum := "743d81ea78a13076ac9dd525c075ef8979ba94b44be4775d90fecd8a3d71edcb", func := "busbar/busbarlaw12.SpanSizes", spec := "spanSizes", apart := false }
def SpanSizesSaid : Prop := spanSizesRow.holds Try.pinned (OpenSpec.ofChange spanSizesSpec)

/-- ITS FALSE NEIGHBOUR: 'it returns false'. Refute it at one input. -/
def spanSizesWrong : ChangeSpec := { name := "spanSizes", fn := fun _ => fun
  | [d1, d2] => { results := [.lit (.bool false)], args := [d1, d2] }
  | _ => none }
def SpanSizesWrongFalsely : Prop := spanSizesRow.holds Try.pinned (OpenSpec.ofChange spanSizesWrong)

/-- 'busbarlaw12.SpanOnce': WHATEVER THE INPUT: true; the input reads as it did. -/
def spanOnceSpec : ChangeSpec := { name := "spanOnce", fn := fun _ => fun
  | [d1, d2] => { results := [.lit (.bool true)], args := [d1, d2] }
  | _ => none }
def spanOnceRow : OpenClaim := { program := "ytkioalfallhegaa", sum := "743d81ea78a13076ac9dd525c075ef8979ba94b44be4775d90fecd8a3d71edcb", func := "busbar/busbarlaw12.SpanOnce", spec := "spanOnce", apart := false }
def SpanOnceSaid : Prop := spanOnceRow.holds Try.pinned (OpenSpec.ofChange spanOnceSpec)

/-- ITS FALSE NEIGHBOUR: 'it returns false'. Refute it at one input. -/
def spanOnceWrong : ChangeSpec := { name := "spanOnce", fn := fun _ => fun
  | [d1, d2] => { results := [.lit (.bool false)], args := [d1, d2] }
  | _ => none }
def SpanOnceWrongFalsely : Prop := spanOnceRow.holds Try.pinned (OpenSpec.ofChange spanOnceWrong)

/-- 'busbarlaw12.SpanAsks': WHATEVER THE INPUT: true; the input reads as it did. -/
def spanAsksSpec : ChangeSpec := { name := "spanAsks", fn := fun _ => fun
  | [d1, d2, d3, d4] => { results := [.lit (.bool true)], args := [d1, d2, d3, d4] }
  | _ => none }
def spanAsksRow : OpenClaim := { program := "ytkioalfallhegaa", sum := "743d81ea78a13076ac9dd525c075ef8979ba94b44be4775d90fecd8a3d71edcb", func := "busbar/busbarlaw12.SpanAsks", spec := "spanAsks", apart := false }
def SpanAsksSaid : Prop := spanAsksRow.holds Try.pinned (OpenSpec.ofChange spanAsksSpec)

/-- ITS FALSE NEIGHBOUR: 'it returns false'. Refute it at one input. -/
def spanAsksWrong : ChangeSpec := { name := "spanAsks", fn := fun _ => fun
  | [d1, d2, d3, d4] => { results := [.lit (.bool false)], args := [d1, d2, d3, d4] }
  | _ => none }
def SpanAsksWrongFalsely : Prop := spanAsksRow.holds Try.pinned (OpenSpec.ofChange spanAsksWrong)

/- THE SECOND FORM. 'bulk': how many values and letters a reading holds, each counted each time it is reached (what is shared counts as often as it is met; a slice's spare places count too). A statement '..UptoSaid' is the law's where the arguments, and the package variables that the reading takes, are together of bulk at most 1048576: NARROWER than '..Said'. Prove '..Said' where nothing that the law and all that it calls make is longer than what came in: it says more and counts as full. Else prove '..UptoSaid'. A law counts once. -/
mutual
def uptoBulk {H : Type} : DataW H → Nat
  | .lit (.string bytes) => bytes.length + 1
  | .lit _ => 1
  | .nil => 1
  | .ptr d => uptoBulk d + 1
  | .slice elems spare => uptoBulkAll elems + uptoBulkAll spare + 1
  | .agg parts => uptoBulkAll parts + 1
  | .iface _ d => uptoBulk d + 1
  | .map entries => uptoBulkEntries entries + 1
  | .held _ => 1
def uptoBulkAll {H : Type} : List (DataW H) → Nat
  | [] => 0
  | d :: r => uptoBulk d + uptoBulkAll r
def uptoBulkEntries {H : Type} : List (Lit × DataW H) → Nat
  | [] => 0
  | x :: r => uptoBulkEntry x + uptoBulkEntries r
def uptoBulkEntry {H : Type} : Lit × DataW H → Nat
  | (.string bytes, d) => bytes.length + uptoBulk d + 1
  | (_, d) => uptoBulk d + 1
 end
def uptoSmall : (H : Type) → List (DataW H) → Bool := fun _ ds => decide (uptoBulkAll ds ≤ 1048576)
def OpenSpec.upto (s : _root_.Go.ChangeSpec) : _root_.Go.OpenSpec := { _root_.Go.OpenSpec.ofChange s with cond := some uptoSmall }

/-- 'busbarlaw23.CtrlOrders', WHERE WHAT IT READS IS OF BULK AT MOST 1048576: true; the input reads as it did. -/
def ctrlOrdersUptoRow : OpenClaim := { program := "ytkioalfallhegaa", sum := "743d81ea78a13076ac9dd525c075ef8979ba94b44be4775d90fecd8a3d71edcb", func := "busbar/busbarlaw23.CtrlOrders", spec := "ctrlOrders", apart := false, narrowed := true }
def CtrlOrdersUptoSaid : Prop := ctrlOrdersUptoRow.holds Try.pinned (OpenSpec.upto ctrlOrdersSpec)

/-- 'busbarlaw23.CtrlCommands', WHERE WHAT IT READS IS OF BULK AT MOST 1048576: true; the input reads as it did. -/
def ctrlCommandsUptoRow : OpenClaim := { program := "ytkioalfallhegaa", sum := "743d81ea78a13076ac9dd525c075ef8979ba94b44be4775d90fecd8a3d71edcb", func := "busbar/busbarlaw23.CtrlCommands", spec := "ctrlCommands", apart := false, narrowed := true }
def CtrlCommandsUptoSaid : Prop := ctrlCommandsUptoRow.holds Try.pinned (OpenSpec.upto ctrlCommandsSpec)

/-- 'busbarlaw23.CtrlTells', WHERE WHAT IT READS IS OF BULK AT MOST 1048576: true; the input reads as it did. -/
def ctrlTellsUptoRow : OpenClaim := { program := "ytkioalfallhegaa", sum := "743d81ea78a13076ac9dd525c075ef8979ba94b44be4775d90fecd8a3d71edcb", func := "busbar/busbarlaw23.CtrlTells", spec := "ctrlTells", apart := false, narrowed := true }
def CtrlTellsUptoSaid : Prop := ctrlTellsUptoRow.holds Try.pinned (OpenSpec.upto ctrlTellsSpec)

/-- 'busbarlaw12.SpanTells', WHERE WHAT IT READS IS OF BULK AT MOST 1048576: true; the input reads as it did. -/
def spanTellsUptoRow : OpenClaim := { program := "ytkioalfallhegaa", sum := "743d81ea78a13076ac9dd525c075ef8979ba94b44be4775d90fecd8a3d71edcb", func := "busbar/busbarlaw12.SpanTells", spec := "spanTells", apart := false, narrowed := true }
def SpanTellsUptoSaid : Prop := spanTellsUptoRow.holds Try.pinned (OpenSpec.upto spanTellsSpec)

/-- 'busbarlaw12.SpanAdds', WHERE WHAT IT READS IS OF BULK AT MOST 1048576: true; the input reads as it did. -/
def spanAddsUptoRow : OpenClaim := { program := "ytkioalfallhegaa", sum := "743d81ea78a13076ac9dd525c075ef8979ba94b44be4775d90fecd8a3d71edcb", func := "busbar/busbarlaw12.SpanAdds", spec := "spanAdds", apart := false, narrowed := true }
def SpanAddsUptoSaid : Prop := spanAddsUptoRow.holds Try.pinned (OpenSpec.upto spanAddsSpec)

/-- 'busbarlaw12.SpanPoints', WHERE WHAT IT READS IS OF BULK AT MOST 1048576: true; the input reads as it did. -/
def spanPointsUptoRow : OpenClaim := { program := "ytkioalfallhegaa", sum := "743d81ea78a13076ac9dd525c075ef8979ba94b44be4775d90fecd8a3d71edcb", func := "busbar/busbarlaw12.SpanPoints", spec := "spanPoints", apart := false, narrowed := true }
def SpanPointsUptoSaid : Prop := spanPointsUptoRow.holds Try.pinned (OpenSpec.upto spanPointsSpec)

/-- 'busbarlaw12.SpanSizes', WHERE WHAT IT READS IS OF BULK AT MOST 1048576: true; the input reads as it did. -/
def spanSizesUptoRow : OpenClaim := { program := "ytkioalfallhegaa", sum := "743d81ea78a13076ac9dd525c075ef8979ba94b44be4775d90fecd8a3d71edcb", func := "busbar/busbarlaw12.SpanSizes", spec := "spanSizes", apart := false, narrowed := true }
def SpanSizesUptoSaid : Prop := spanSizesUptoRow.holds Try.pinned (OpenSpec.upto spanSizesSpec)

/-- 'busbarlaw12.SpanOnce', WHERE WHAT IT READS IS OF BULK AT MOST 1048576: true; the input reads as it did. -/
def spanOnceUptoRow : OpenClaim := { program := "ytkioalfallhegaa", sum := "743d81ea78a13076ac9dd525c075ef8979ba94b44be4775d90fecd8a3d71edcb", func := "busbar/busbarlaw12.SpanOnce", spec := "spanOnce", apart := false, narrowed := true }
def SpanOnceUptoSaid : Prop := spanOnceUptoRow.holds Try.pinned (OpenSpec.upto spanOnceSpec)

/-- 'busbarlaw12.SpanAsks', WHERE WHAT IT READS IS OF BULK AT MOST 1048576: true; the input reads as it did. -/
def spanAsksUptoRow : OpenClaim := { program := "ytkioalfallhegaa", sum := "743d81ea78a13076ac9dd525c075ef8979ba94b44be4775d90fecd8a3d71edcb", func := "busbar/busbarlaw12.SpanAsks", spec := "spanAsks", apart := false, narrowed := true }
def SpanAsksUptoSaid : Prop := spanAsksUptoRow.holds Try.pinned (OpenSpec.upto spanAsksSpec)

end Rows
end Go.Proofs.Ytkioalfallhegaa
