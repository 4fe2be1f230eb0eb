/- Rows with zeros put behind them; a string's bytes as a row. -/
import Derived.Test.YthhcmoknppljpaaDoorEng15
import Derived.Laws.IdiomStrings
set_option linter.unusedVariables false
set_option linter.unusedSimpArgs false
namespace Go.Sh
open Go.RowKit
noncomputable section
end
end Go.Sh
