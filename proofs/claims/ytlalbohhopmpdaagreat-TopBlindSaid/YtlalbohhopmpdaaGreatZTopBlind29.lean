/- Words and walks for TopBlind (made of the session's own texts; each part by itself). -/
import Derived.Deep.WholeRow
import Derived.Great.BuildSlice
import Derived.Test.YtlalbohhopmpdaaGreatZTopBlind27
set_option maxRecDepth 100000
set_option maxHeartbeats 8000000
set_option linter.unusedVariables false
set_option linter.unusedSimpArgs false
namespace Go.Proofs.YtlalbohhopmpdaaGreat.Top
open Go.RowKit Go.Proofs.YtlalbohhopmpdaaGreat.PTop Go.YW.PrintWords Go.YW.PrintLast Go.YW.PrintMore Go.Proofs.YtlalbohhopmpdaaGreat.Num
theorem zdy : ∀ (x n : Int) (W : World), (Instr.build 37 #[(0, .int .i64 3), (1, .int .i64 x), (2, .int .i64 n)]).run Tryz.prog W = .ok (.agg #[.int .i64 3, .int .i64 x, .int .i64 n, .int .u16 0, .int .u16 0, .int .u16 0, .slice none 0 0, .slice none 0 0, .int .i64 0, .int .i64 0, .int .i64 0, .int .i64 0]) W := fun x n W => by kernel_rfl
section
variable {w : World} {B : Nat} {x : Ix} {tb gb dk : Nat} {L : Nat → Nat → Nat} {a b z : Int}
end
end Go.Proofs.YtlalbohhopmpdaaGreat.Top
