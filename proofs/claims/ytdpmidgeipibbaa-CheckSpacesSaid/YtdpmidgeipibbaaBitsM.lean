/- Signs, fields, turns, in plain Lean. -/
import Derived.Test.YtdpmidgeipibbaaBitsV
set_option linter.unusedVariables false
set_option linter.unusedSimpArgs false
set_option maxHeartbeats 4000000
namespace Go.Proofs.Ytdpmidgeipibbaa
open Go.Sh Go.RowKit

/-! signs -/
/-! fields by their bits -/
/-! turns -/
end Go.Proofs.Ytdpmidgeipibbaa
