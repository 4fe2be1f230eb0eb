/- Words moved; the small example of the statements on words. -/
import Derived.Test.YtknineilpenbnaaDoorMem
set_option linter.unusedVariables false
set_option linter.unusedSimpArgs false
set_option maxHeartbeats 4000000
namespace Go.Proofs.YtknineilpenbnaaDoor
open Go.Sh Go.RowKit

theorem moveW_none {ws : List (BitVec 64)} {to src : Nat} : moveW ws to src 0 = ws := by simp [moveW]
theorem wrds_one {l : List (BitVec 64)} : ∀ u ∈ wrds l, u.oneCell' = true := by simp [Value.oneCell']
section
variable {w : World} {base g : Nat} {a : Option Addr} {c : Nat} {ws : List (BitVec 64)}
end
end Go.Proofs.YtknineilpenbnaaDoor
