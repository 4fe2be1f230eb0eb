/- Words and their bytes, in plain Lean. -/
import Derived.Test.YtdpmidgeipibbaaBitsQ
set_option linter.unusedVariables false
set_option linter.unusedSimpArgs false
set_option maxHeartbeats 4000000
namespace Go.Proofs.Ytdpmidgeipibbaa
open Go.Sh Go.RowKit

abbrev c0 : BitVec 64 := BitVec.ofNat 64 0
def byteW (ws : List (BitVec 64)) (i : Nat) : BitVec 8 := ((ws.getD (i / 8) c0) >>> (8 * (i % 8))).setWidth 8
/-- n things from a place on -/
def among (at' n all : Int) : Prop := 0 ≤ at' ∧ 0 ≤ n ∧ n ≤ all ∧ at' ≤ all - n
instance (at' n all : Int) : Decidable (among at' n all) := by unfold among; infer_instance
end Go.Proofs.Ytdpmidgeipibbaa
