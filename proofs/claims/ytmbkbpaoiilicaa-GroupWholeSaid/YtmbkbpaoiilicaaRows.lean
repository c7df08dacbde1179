/-
  No cell of these rows narrows 'for every input' (looked for: loops, veiled, ifaces, maps, wideKeys, modest, calm, conditions, laid).
  DERIVED. THE GIVEN ROWS OF THIS SEAT. 9 by the template 'for every input the law returns true; each argument reads behind the call as it read before'; 0 by the template 'total and deterministic' (their statements: YtmbkbpaoiilicaaTotals.lean).
  GIVEN WITH THE SEED: the statements are not yours to turn. If you find one false, say at which input.
  Laid BY PROGRAM, IN A SANDBOX (cutbox-rows.mjs): the forced cells as the released guide's own fill.sh prints them over the translation 2661b8be64a72172… (all of the seat's roots in one cut). By AI agents, Wed Nov 11 2026. No macro, syntax, notation, axiom, sorry.
-/
import Derived.Test.YtmbkbpaoiilicaaChecked
import GoSem.Claim
import GoSem.ClaimJoined
import GoSem.ClaimMapViews
import Derived.JoinedTies
import Derived.KernelRfl
namespace Go.Proofs.Ytmbkbpaoiilicaa
/- THE CELL 'sum', in the pinned program and in every row, IS THE sha256 OF THE DUMP (.gsa) THAT YtmbkbpaoiilicaaProg.lean LOADS. Nothing in Lean hashes anything: it is a label: what it is worth is what the hold of that sum in a sandbox is worth. -/
noncomputable def Try.pinned : Pinned := { name := "ytmbkbpaoiilicaa", sum := "2661b8be64a72172a051c2aacf92ed9ec0ef2ddd601829461e5434dbe211ed04", checked := Try.checked }
namespace Rows
def none {H : Type} : Left H := { results := [], args := [] }

/-- 'busbarlaw14.GroupRows': WHATEVER THE INPUT: true; the input reads as it did. -/
def groupRowsSpec : ChangeSpec := { name := "groupRows", fn := fun _ => fun
  | [d1, d2, d3] => { results := [.lit (.bool true)], args := [d1, d2, d3] }
  | _ => none }
def groupRowsRow : OpenClaim := { program := "ytmbkbpaoiilicaa", sum := "2661b8be64a72172a051c2aacf92ed9ec0ef2ddd601829461e5434dbe211ed04", func := "busbar/busbarlaw14.GroupRows", spec := "groupRows", plainKeys := false, apart := false }
def GroupRowsSaid : Prop := groupRowsRow.holds Try.pinned (OpenSpec.ofChange groupRowsSpec)

/-- ITS FALSE NEIGHBOUR: 'it returns false'. Refute it at one input. -/
def groupRowsWrong : ChangeSpec := { name := "groupRows", fn := fun _ => fun
  | [d1, d2, d3] => { results := [.lit (.bool false)], args := [d1, d2, d3] }
  | _ => none }
def GroupRowsWrongFalsely : Prop := groupRowsRow.holds Try.pinned (OpenSpec.ofChange groupRowsWrong)

/-- 'busbarlaw13.PlanChecks': WHATEVER THE INPUT: true; the input reads as it did. -/
def planChecksSpec : ChangeSpec := { name := "planChecks", fn := fun _ => fun
  | [d1, d2, d3, d4] => { results := [.lit (.bool true)], args := [d1, d2, d3, d4] }
  | _ => none }
def planChecksRow : OpenClaim := { program := "ytmbkbpaoiilicaa", sum := "2661b8be64a72172a051c2aacf92ed9ec0ef2ddd601829461e5434dbe211ed04", func := "busbar/busbarlaw13.PlanChecks", spec := "planChecks", plainKeys := false, apart := false }
def PlanChecksSaid : Prop := planChecksRow.holds Try.pinned (OpenSpec.ofChange planChecksSpec)

/-- ITS FALSE NEIGHBOUR: 'it returns false'. Refute it at one input. -/
def planChecksWrong : ChangeSpec := { name := "planChecks", fn := fun _ => fun
  | [d1, d2, d3, d4] => { results := [.lit (.bool false)], args := [d1, d2, d3, d4] }
  | _ => none }
def PlanChecksWrongFalsely : Prop := planChecksRow.holds Try.pinned (OpenSpec.ofChange planChecksWrong)

/-- 'busbarlaw13.PlanWhere': WHATEVER THE INPUT: true; the input reads as it did. -/
def planWhereSpec : ChangeSpec := { name := "planWhere", fn := fun _ => fun
  | [d1, d2, d3, d4] => { results := [.lit (.bool true)], args := [d1, d2, d3, d4] }
  | _ => none }
def planWhereRow : OpenClaim := { program := "ytmbkbpaoiilicaa", sum := "2661b8be64a72172a051c2aacf92ed9ec0ef2ddd601829461e5434dbe211ed04", func := "busbar/busbarlaw13.PlanWhere", spec := "planWhere", plainKeys := false, apart := false }
def PlanWhereSaid : Prop := planWhereRow.holds Try.pinned (OpenSpec.ofChange planWhereSpec)

/-- ITS FALSE NEIGHBOUR: 'it returns false'. Refute it at one input. -/
def planWhereWrong : ChangeSpec := { name := "planWhere", fn := fun _ => fun
  | [d1, d2, d3, d4] => { results := [.lit (.bool false)], args := [d1, d2, d3, d4] }
  | _ => none }
def PlanWhereWrongFalsely : Prop := planWhereRow.holds Try.pinned (OpenSpec.ofChange planWhereWrong)

/-- 'busbarlaw13.PlanParts': WHATEVER THE INPUT: true; the input reads as it did. -/
def planPartsSpec : ChangeSpec := { name := "planParts", fn := fun _ => fun
  | [d1, d2] => { results := [.lit (.bool true)], args := [d1, d2] }
  | _ => none }
def planPartsRow : OpenClaim := { program := "ytmbkbpaoiilicaa", sum := "2661b8be64a72172a051c2aacf92ed9ec0ef2ddd601829461e5434dbe211ed04", func := "busbar/busbarlaw13.PlanParts", spec := "planParts", plainKeys := false, apart := false }
def PlanPartsSaid : Prop := planPartsRow.holds Try.pinned (OpenSpec.ofChange planPartsSpec)

/-- ITS FALSE NEIGHBOUR: 'it returns false'. Refute it at one input. -/
def planPartsWrong : ChangeSpec := { name := "planParts", fn := fun _ => fun
  | [d1, d2] => { results := [.lit (.bool false)], args := [d1, d2] }
  | _ => none }
def PlanPartsWrongFalsely : Prop := planPartsRow.holds Try.pinned (OpenSpec.ofChange planPartsWrong)

/-- 'busbarlaw13.PlanWindow': WHATEVER THE INPUT: true; the input reads as it did. -/
def planWindowSpec : ChangeSpec := { name := "planWindow", fn := fun _ => fun
  | [d1, d2, d3, d4] => { results := [.lit (.bool true)], args := [d1, d2, d3, d4] }
  | _ => none }
def planWindowRow : OpenClaim := { program := "ytmbkbpaoiilicaa", sum := "2661b8be64a72172a051c2aacf92ed9ec0ef2ddd601829461e5434dbe211ed04", func := "busbar/busbarlaw13.PlanWindow", spec := "planWindow", plainKeys := false, apart := false }
def PlanWindowSaid : Prop := planWindowRow.holds Try.pinned (OpenSpec.ofChange planWindowSpec)

/-- ITS FALSE NEIGHBOUR: 'it returns false'. Refute it at one input. -/
def planWindowWrong : ChangeSpec := { name := "planWindow", fn := fun _ => fun
  | [d1, d2, d3, d4] => { results := [.lit (.bool false)], args := [d1, d2, d3, d4] }
  | _ => none }
def PlanWindowWrongFalsely : Prop := planWindowRow.holds Try.pinned (OpenSpec.ofChange planWindowWrong)

/-- 'busbarlaw14.GroupAsks': WHATEVER THE INPUT: true; the input reads as it did. -/
def groupAsksSpec : ChangeSpec := { name := "groupAsks", fn := fun _ => fun
  | [d1, d2, d3, d4] => { results := [.lit (.bool true)], args := [d1, d2, d3, d4] }
  | _ => none }
def groupAsksRow : OpenClaim := { program := "ytmbkbpaoiilicaa", sum := "2661b8be64a72172a051c2aacf92ed9ec0ef2ddd601829461e5434dbe211ed04", func := "busbar/busbarlaw14.GroupAsks", spec := "groupAsks", plainKeys := false, apart := false }
def GroupAsksSaid : Prop := groupAsksRow.holds Try.pinned (OpenSpec.ofChange groupAsksSpec)

/-- ITS FALSE NEIGHBOUR: 'it returns false'. Refute it at one input. -/
def groupAsksWrong : ChangeSpec := { name := "groupAsks", fn := fun _ => fun
  | [d1, d2, d3, d4] => { results := [.lit (.bool false)], args := [d1, d2, d3, d4] }
  | _ => none }
def GroupAsksWrongFalsely : Prop := groupAsksRow.holds Try.pinned (OpenSpec.ofChange groupAsksWrong)

/-- 'busbarlaw14.GroupWhole': WHATEVER THE INPUT: true; the input reads as it did. -/
def groupWholeSpec : ChangeSpec := { name := "groupWhole", fn := fun _ => fun
  | [d1, d2] => { results := [.lit (.bool true)], args := [d1, d2] }
  | _ => none }
def groupWholeRow : OpenClaim := { program := "ytmbkbpaoiilicaa", sum := "2661b8be64a72172a051c2aacf92ed9ec0ef2ddd601829461e5434dbe211ed04", func := "busbar/busbarlaw14.GroupWhole", spec := "groupWhole", plainKeys := false, apart := false }
def GroupWholeSaid : Prop := groupWholeRow.holds Try.pinned (OpenSpec.ofChange groupWholeSpec)

/-- ITS FALSE NEIGHBOUR: 'it returns false'. Refute it at one input. -/
def groupWholeWrong : ChangeSpec := { name := "groupWhole", fn := fun _ => fun
  | [d1, d2] => { results := [.lit (.bool false)], args := [d1, d2] }
  | _ => none }
def GroupWholeWrongFalsely : Prop := groupWholeRow.holds Try.pinned (OpenSpec.ofChange groupWholeWrong)

/-- 'busbarlaw14.GroupValues': WHATEVER THE INPUT: true; the input reads as it did. -/
def groupValuesSpec : ChangeSpec := { name := "groupValues", fn := fun _ => fun
  | [d1, d2, d3, d4] => { results := [.lit (.bool true)], args := [d1, d2, d3, d4] }
  | _ => none }
def groupValuesRow : OpenClaim := { program := "ytmbkbpaoiilicaa", sum := "2661b8be64a72172a051c2aacf92ed9ec0ef2ddd601829461e5434dbe211ed04", func := "busbar/busbarlaw14.GroupValues", spec := "groupValues", plainKeys := false, apart := false }
def GroupValuesSaid : Prop := groupValuesRow.holds Try.pinned (OpenSpec.ofChange groupValuesSpec)

/-- ITS FALSE NEIGHBOUR: 'it returns false'. Refute it at one input. -/
def groupValuesWrong : ChangeSpec := { name := "groupValues", fn := fun _ => fun
  | [d1, d2, d3, d4] => { results := [.lit (.bool false)], args := [d1, d2, d3, d4] }
  | _ => none }
def GroupValuesWrongFalsely : Prop := groupValuesRow.holds Try.pinned (OpenSpec.ofChange groupValuesWrong)

/-- 'busbarlaw14.GroupChecks': WHATEVER THE INPUT: true; the input reads as it did. -/
def groupChecksSpec : ChangeSpec := { name := "groupChecks", fn := fun _ => fun
  | [d1, d2, d3, d4] => { results := [.lit (.bool true)], args := [d1, d2, d3, d4] }
  | _ => none }
def groupChecksRow : OpenClaim := { program := "ytmbkbpaoiilicaa", sum := "2661b8be64a72172a051c2aacf92ed9ec0ef2ddd601829461e5434dbe211ed04", func := "busbar/busbarlaw14.GroupChecks", spec := "groupChecks", plainKeys := false, apart := false }
def GroupChecksSaid : Prop := groupChecksRow.holds Try.pinned (OpenSpec.ofChange groupChecksSpec)

/-- ITS FALSE NEIGHBOUR: 'it returns false'. Refute it at one input. -/
def groupChecksWrong : ChangeSpec := { name := "groupChecks", fn := fun _ => fun
  | [d1, d2, d3, d4] => { results := [.lit (.bool false)], args := [d1, d2, d3, d4] }
  | _ => none }
def GroupChecksWrongFalsely : Prop := groupChecksRow.holds Try.pinned (OpenSpec.ofChange groupChecksWrong)

/- THE SECOND FORM. 'bulk': how many values and letters a reading holds, each counted each time it is reached (what is shared counts as often as it is met; a slice's spare places count too). A statement '..UptoSaid' is the law's where the arguments, and the package variables that the reading takes, are together of bulk at most 1048576: NARROWER than '..Said'. Prove '..Said' where nothing that the law and all that it calls make is longer than what came in: it says more and counts as full. Else prove '..UptoSaid'. A law counts once. -/
mutual
def uptoBulk {H : Type} : DataW H → Nat
  | .lit (.string bytes) => bytes.length + 1
  | .lit _ => 1
  | .nil => 1
  | .ptr d => uptoBulk d + 1
  | .slice elems spare => uptoBulkAll elems + uptoBulkAll spare + 1
  | .agg parts => uptoBulkAll parts + 1
  | .iface _ d => uptoBulk d + 1
  | .map entries => uptoBulkEntries entries + 1
  | .held _ => 1
def uptoBulkAll {H : Type} : List (DataW H) → Nat
  | [] => 0
  | d :: r => uptoBulk d + uptoBulkAll r
def uptoBulkEntries {H : Type} : List (Lit × DataW H) → Nat
  | [] => 0
  | x :: r => uptoBulkEntry x + uptoBulkEntries r
def uptoBulkEntry {H : Type} : Lit × DataW H → Nat
  | (.string bytes, d) => bytes.length + uptoBulk d + 1
  | (_, d) => uptoBulk d + 1
 end
def uptoSmall : (H : Type) → List (DataW H) → Bool := fun _ ds => decide (uptoBulkAll ds ≤ 1048576)
def OpenSpec.upto (s : _root_.Go.ChangeSpec) : _root_.Go.OpenSpec := { _root_.Go.OpenSpec.ofChange s with cond := some uptoSmall }

/-- 'busbarlaw14.GroupRows', WHERE WHAT IT READS IS OF BULK AT MOST 1048576: true; the input reads as it did. -/
def groupRowsUptoRow : OpenClaim := { program := "ytmbkbpaoiilicaa", sum := "2661b8be64a72172a051c2aacf92ed9ec0ef2ddd601829461e5434dbe211ed04", func := "busbar/busbarlaw14.GroupRows", spec := "groupRows", plainKeys := false, apart := false, narrowed := true }
def GroupRowsUptoSaid : Prop := groupRowsUptoRow.holds Try.pinned (OpenSpec.upto groupRowsSpec)

/-- 'busbarlaw13.PlanChecks', WHERE WHAT IT READS IS OF BULK AT MOST 1048576: true; the input reads as it did. -/
def planChecksUptoRow : OpenClaim := { program := "ytmbkbpaoiilicaa", sum := "2661b8be64a72172a051c2aacf92ed9ec0ef2ddd601829461e5434dbe211ed04", func := "busbar/busbarlaw13.PlanChecks", spec := "planChecks", plainKeys := false, apart := false, narrowed := true }
def PlanChecksUptoSaid : Prop := planChecksUptoRow.holds Try.pinned (OpenSpec.upto planChecksSpec)

/-- 'busbarlaw13.PlanWhere', WHERE WHAT IT READS IS OF BULK AT MOST 1048576: true; the input reads as it did. -/
def planWhereUptoRow : OpenClaim := { program := "ytmbkbpaoiilicaa", sum := "2661b8be64a72172a051c2aacf92ed9ec0ef2ddd601829461e5434dbe211ed04", func := "busbar/busbarlaw13.PlanWhere", spec := "planWhere", plainKeys := false, apart := false, narrowed := true }
def PlanWhereUptoSaid : Prop := planWhereUptoRow.holds Try.pinned (OpenSpec.upto planWhereSpec)

/-- 'busbarlaw13.PlanParts', WHERE WHAT IT READS IS OF BULK AT MOST 1048576: true; the input reads as it did. -/
def planPartsUptoRow : OpenClaim := { program := "ytmbkbpaoiilicaa", sum := "2661b8be64a72172a051c2aacf92ed9ec0ef2ddd601829461e5434dbe211ed04", func := "busbar/busbarlaw13.PlanParts", spec := "planParts", plainKeys := false, apart := false, narrowed := true }
def PlanPartsUptoSaid : Prop := planPartsUptoRow.holds Try.pinned (OpenSpec.upto planPartsSpec)

/-- 'busbarlaw13.PlanWindow', WHERE WHAT IT READS IS OF BULK AT MOST 1048576: true; the input reads as it did. -/
def planWindowUptoRow : OpenClaim := { program := "ytmbkbpaoiilicaa", sum := "2661b8be64a72172a051c2aacf92ed9ec0ef2ddd601829461e5434dbe211ed04", func := "busbar/busbarlaw13.PlanWindow", spec := "planWindow", plainKeys := false, apart := false, narrowed := true }
def PlanWindowUptoSaid : Prop := planWindowUptoRow.holds Try.pinned (OpenSpec.upto planWindowSpec)

/-- 'busbarlaw14.GroupAsks', WHERE WHAT IT READS IS OF BULK AT MOST 1048576: true; the input reads as it did. -/
def groupAsksUptoRow : OpenClaim := { program := "ytmbkbpaoiilicaa", sum := "2661b8be64a72172a051c2aacf92ed9ec0ef2ddd601829461e5434dbe211ed04", func := "busbar/busbarlaw14.GroupAsks", spec := "groupAsks", plainKeys := false, apart := false, narrowed := true }
def GroupAsksUptoSaid : Prop := groupAsksUptoRow.holds Try.pinned (OpenSpec.upto groupAsksSpec)

/-- 'busbarlaw14.GroupWhole', WHERE WHAT IT READS IS OF BULK AT MOST 1048576: true; the input reads as it did. -/
def groupWholeUptoRow : OpenClaim := { program := "ytmbkbpaoiilicaa", sum := "2661b8be64a72172a051c2aacf92ed9ec0ef2ddd601829461e5434dbe211ed04", func := "busbar/busbarlaw14.GroupWhole", spec := "groupWhole", plainKeys := false, apart := false, narrowed := true }
def GroupWholeUptoSaid : Prop := groupWholeUptoRow.holds Try.pinned (OpenSpec.upto groupWholeSpec)

/-- 'busbarlaw14.GroupValues', WHERE WHAT IT READS IS OF BULK AT MOST 1048576: true; the input reads as it did. -/
def groupValuesUptoRow : OpenClaim := { program := "ytmbkbpaoiilicaa", sum := "2661b8be64a72172a051c2aacf92ed9ec0ef2ddd601829461e5434dbe211ed04", func := "busbar/busbarlaw14.GroupValues", spec := "groupValues", plainKeys := false, apart := false, narrowed := true }
def GroupValuesUptoSaid : Prop := groupValuesUptoRow.holds Try.pinned (OpenSpec.upto groupValuesSpec)

/-- 'busbarlaw14.GroupChecks', WHERE WHAT IT READS IS OF BULK AT MOST 1048576: true; the input reads as it did. -/
def groupChecksUptoRow : OpenClaim := { program := "ytmbkbpaoiilicaa", sum := "2661b8be64a72172a051c2aacf92ed9ec0ef2ddd601829461e5434dbe211ed04", func := "busbar/busbarlaw14.GroupChecks", spec := "groupChecks", plainKeys := false, apart := false, narrowed := true }
def GroupChecksUptoSaid : Prop := groupChecksUptoRow.holds Try.pinned (OpenSpec.upto groupChecksSpec)

end Rows
end Go.Proofs.Ytmbkbpaoiilicaa
