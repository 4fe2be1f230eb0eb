/- The small example of the statements on bits; and the statements on numbers alone, walked. -/
import Derived.Test.YtknineilpenbnaaDoorBitsW
set_option linter.unusedVariables false
set_option linter.unusedSimpArgs false
set_option maxHeartbeats 4000000
namespace Go.Proofs.YtknineilpenbnaaDoor
open Go.Sh Go.RowKit

theorem lit_row (w : World) (l : List (BitVec 8)) : RowAt (w.alloc (.cells (bys l).toArray 5)) (some ⟨w.heap.size, 0, none⟩) (bys l) := (Blk.new w (bys l)).row
end Go.Proofs.YtknineilpenbnaaDoor
