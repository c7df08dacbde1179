/- Words and walks for TopSkew (made of the session's own texts; each part by itself). -/
import Derived.Test.YtlalbohhopmpdaaGreatZTopSkew29
import Derived.Test.YtlalbohhopmpdaaGreatZTopSkew30
import Derived.Test.YtlalbohhopmpdaaGreatZTopSkew31
import Derived.Test.YtlalbohhopmpdaaGreatZTopSkew32
set_option maxRecDepth 100000
set_option maxHeartbeats 8000000
set_option linter.unusedVariables false
set_option linter.unusedSimpArgs false
namespace Go.Proofs.YtlalbohhopmpdaaGreat.Top
open Go.RowKit
theorem skew_true (w : World) (a b : Int) (reads first : Bool) : Calls Tryz.prog 3 #[.int .i64 a, .int .i64 b, .bool reads, .bool first] w fun e w' => e = .returned (.bool true) ∧ Below w.heap.size w w' := by
  cases reads <;> cases first
  · exact zbR w a b
  · exact zbH w a b
  · exact zcd w a b
  · exact zbv w a b
end Go.Proofs.YtlalbohhopmpdaaGreat.Top
