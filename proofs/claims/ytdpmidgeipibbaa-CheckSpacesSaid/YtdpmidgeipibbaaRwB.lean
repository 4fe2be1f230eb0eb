/- Rows of bytes of one's own (sq). -/
import Derived.Test.YtdpmidgeipibbaaRules
import Derived.Test.YtdpmidgeipibbaaEng14
set_option linter.unusedVariables false
set_option linter.unusedSimpArgs false
set_option maxHeartbeats 4000000
namespace Go.Proofs.Ytdpmidgeipibbaa
open Go.Sh Go.RowKit

end Go.Proofs.Ytdpmidgeipibbaa
