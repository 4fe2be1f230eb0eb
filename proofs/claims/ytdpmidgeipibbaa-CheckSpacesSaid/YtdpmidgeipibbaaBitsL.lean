/- The small example of the statements on bits; and the statements on numbers alone, walked. -/
import Derived.Test.YtdpmidgeipibbaaBitsW
set_option linter.unusedVariables false
set_option linter.unusedSimpArgs false
set_option maxHeartbeats 4000000
namespace Go.Proofs.Ytdpmidgeipibbaa
open Go.Sh Go.RowKit

end Go.Proofs.Ytdpmidgeipibbaa
