/- What the reference's functions on bytes compute. -/
import Derived.Test.YtknineilpenbnaaDoorBitsL
set_option linter.unusedVariables false
set_option linter.unusedSimpArgs false
set_option maxHeartbeats 4000000
namespace Go.Proofs.YtknineilpenbnaaDoor
open Go.Sh Go.RowKit

theorem bys_ok {l : List (BitVec 8)} : ∀ u ∈ bys l, u.oneCell' = true := by simp [Value.oneCell']
theorem own_nil {w : World} {base : Nat} {e : TypeId} : w.ownsRow base e 1 (.slice none 0 0) 0 [] := World.ownsRow_nil w base e 1
end Go.Proofs.YtknineilpenbnaaDoor
