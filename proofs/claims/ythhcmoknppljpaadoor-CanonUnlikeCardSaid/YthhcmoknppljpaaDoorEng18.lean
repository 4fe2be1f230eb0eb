/- An append of nothing to a row that is only read; a row of one's own without its last. -/
import Derived.Test.YthhcmoknppljpaaDoorEng17
import Derived.ArgAppend
namespace Go.Sh
open Go Go.RowKit
section
end
end Go.Sh
