/- Signs, fields, turns, in plain Lean. -/
import Derived.Test.YtknineilpenbnaaDoorBitsV
set_option linter.unusedVariables false
set_option linter.unusedSimpArgs false
set_option maxHeartbeats 4000000
namespace Go.Proofs.YtknineilpenbnaaDoor
open Go.Sh Go.RowKit

/-! signs -/
/-! fields by their bits -/
/-! turns -/
end Go.Proofs.YtknineilpenbnaaDoor
