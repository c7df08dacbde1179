-- written by a program of this session (wip/pp) over the kit's print.py; Lean checks it
import Derived.Test.YtkioalfallhegaaProg
import Derived.Below
import Derived.Deep.Draws
import Derived.Deep.AppendLies
import Derived.Maps.AppendAt
import Derived.OwnWalk
import Derived.Laws.BytesArg
import Derived.Laws.MakeOwn
import Derived.Laws.OwnMore
import Derived.Deep.OwnRows
import Derived.Tactics
import Derived.Lib.ConvBytes
import Derived.Laws.Slices
import Derived.WalkKit
import Derived.KernelRfl
import Derived.RowKit3
import Derived.Deep.LoopGhost
import Derived.Deep.QuietTactic
import Derived.BigQuiet
import Derived.WideLaws
import Derived.Deep.DeepCutAuto
import Derived.Deep.CutBlock
import Derived.Deep.RegionHeld3
import Derived.Laws.Rows
import Derived.Lib.AppendStr
import Derived.ArgAppend
import Derived.Laws.IdiomCopy
import Derived.OrdersHeld
import Derived.Laws.BitsLemmas
import Derived.RowKit
import Derived.Test.YtkioalfallhegaaWWords
import Derived.Test.YtkioalfallhegaaWLast
import Derived.Test.YtkioalfallhegaaWTab
import Derived.Test.YtkioalfallhegaaWFour
import Derived.Test.YtkioalfallhegaaWQPut
import Derived.Test.YtkioalfallhegaaWApart
import Derived.Test.YtkioalfallhegaaWArr
import Derived.Test.YtkioalfallhegaaWZeros
import Derived.Test.YtkioalfallhegaaWFoot
import Derived.Test.YtkioalfallhegaaWKept
import Derived.Test.YtkioalfallhegaaWShare
import Derived.Test.YtkioalfallhegaaWN
import Derived.Test.YtkioalfallhegaaWFootNe
import Derived.Test.YtkioalfallhegaaWAt
import Derived.Test.YtkioalfallhegaaWEqStruct
import Derived.Test.YtkioalfallhegaaWRepsOne
import Derived.Test.YtkioalfallhegaaWInv
import Derived.Test.YtkioalfallhegaaWInvWords
import Derived.Test.YtkioalfallhegaaWGuard
import Derived.Test.YtkioalfallhegaaWNEv
import Derived.Test.YtkioalfallhegaaWMore
import Derived.Test.YtkioalfallhegaaWPlus
namespace Go.Proofs.Ytkioalfallhegaa.PCtrl
open Go.RowKit Go.Proofs.YtkioalfallhegaaW.PrintWords Go.Proofs.YtkioalfallhegaaW.PrintLast Go.Proofs.YtkioalfallhegaaW.PrintMore
attribute [local go_sem] max2_int min2_int max_two min_two max_three min_three max_four min_four plus_setCell_drewN plus_cell_same   -- for this text's walks alone
set_option linter.unusedVariables false
set_option linter.unusedSimpArgs false



def errW : Option Int → Value
 | none => .nilIface
 | some c => .iface 0 (.int .i64 c)
theorem errW_none : errW none = .nilIface := rfl
theorem errW_some (c : Int) : errW (some c) = .iface 0 (.int .i64 c) := rfl

theorem info4 : (Try.prog.info? 4).map (fun i => (i.zero, i.size, i.bytes)) = some (some (.bool false), 1, 1) := by kernel_rfl
theorem info22 : (Try.prog.info? 22).map (fun i => (i.zero, i.size, i.bytes)) = some (some (.int .u16 0), 1, 2) := by kernel_rfl
-- the values' own types

end Go.Proofs.Ytkioalfallhegaa.PCtrl
