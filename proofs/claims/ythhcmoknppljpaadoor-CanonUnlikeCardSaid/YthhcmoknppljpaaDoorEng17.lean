/- Rows of bytes of a fixed length: as values, in memory, cut; strings that are cut. -/
import Derived.Test.YthhcmoknppljpaaDoorEng16
import Derived.ChangeKeysEq
set_option linter.unusedVariables false
set_option linter.unusedSimpArgs false
namespace Go.Sh
open Go.RowKit
noncomputable section
variable {P : Program} {w : World} {K : K1} {t tx ty e : TypeId}

theorem Blk.put {g : Nat} {e' : TypeId} {old cs : List Value} (B : Blk w g e' old) (ho : old.length = cs.length) : Blk (w.setCells g 0 cs) g e' cs := by
  have := B.sets (l := cs) (o := 0) (by omega)
  simpa [← ho] using this
end
end Go.Sh
