/- Numbers in bytes, in plain Lean. -/
import Derived.Test.YtdpmidgeipibbaaBitsM
set_option linter.unusedVariables false
set_option linter.unusedSimpArgs false
set_option maxHeartbeats 4000000
namespace Go.Proofs.Ytdpmidgeipibbaa
open Go.Sh Go.RowKit

def inside (at' n size : Int) : Prop := 1 ≤ n ∧ n ≤ 8 ∧ 0 ≤ at' ∧ n ≤ size ∧ at' ≤ size - n
instance (at' n size : Int) : Decidable (inside at' n size) := by unfold inside; infer_instance
end Go.Proofs.Ytdpmidgeipibbaa
